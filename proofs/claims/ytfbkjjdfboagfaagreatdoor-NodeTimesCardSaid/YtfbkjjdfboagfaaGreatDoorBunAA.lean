/- Some of the texts. No conditions. -/
import Derived.Lib.Hide
import Derived.RangeFuncRecord
import Derived.Deep.RegionHeld3
import Derived.ProofKit
import Derived.Deep.AppendLies
import Derived.Test.YtfbkjjdfboagfaaGreatDoorRows
import Derived.WalkSpells
import Derived.WalkLawsBesides
import Derived.Deep.DeepCutAuto

set_option linter.unusedSimpArgs false
set_option linter.unusedVariables false
set_option maxRecDepth 100000
set_option maxHeartbeats 16000000
namespace Go.Proofs.YtfbkjjdfboagfaaGreatDoor
end Go.Proofs.YtfbkjjdfboagfaaGreatDoor
namespace Go.Proofs.Tryz
end Go.Proofs.Tryz
namespace Go.Shelf
end Go.Shelf
namespace Go.Lib
end Go.Lib
namespace Go.Proofs.YtfbkjjdfboagfaaGreatDoor
open Go
variable {P:Program} {ops:Array Oper} {Q:Exit→Act→World→Prop} {md:Region.Mode} {S:World→Prop}
theorem wpT {i:Nat} {oi:Oper} {v:Value} {fuel:Nat} {listed:Array Bool} {a:Act} {w:World}
  (hv:∀w,S w→(execOp a.eval oi).run P w=.ok (.value v) w) (hS:S w)
  (h:wpAnyH P md ops Q S fuel (listed.setIfInBounds i true) (a.put oi.dst v) w)
  (hi:ops[i]?=some oi:=by exact rfl) (hs:Region.noSelect ops=true:=by kernel_rfl) (hf:Region.free md ops listed i=true:=by kernel_rfl) (hr:(Region.ready md ops listed).contains i=true:=by kernel_rfl)
  (hQ:∀c a w,Q (.panic c) (a.put oi.dst v) w→Q (.panic c) a w:=by exact fun _ _ _ h=>h)
  (hw:Region.wanted oi (yielded ops a.tmps)=true:=by rfl):wpAnyH P md ops Q S (fuel+1) listed a w:=
 wpAnyH_take hi hs hf hr hQ (Or.inl ⟨hw,hv⟩) hS h
theorem wpT0 {i:Nat} {oi:Oper} {fuel:Nat} {listed:Array Bool} {a:Act} {w:World} (hS:S w)
  (h:wpAnyH P md ops Q S fuel (listed.setIfInBounds i true) (a.put oi.dst undef) w)
  (hi:ops[i]?=some oi:=by exact rfl) (hs:Region.noSelect ops=true:=by kernel_rfl) (hf:Region.free md ops listed i=true:=by kernel_rfl) (hr:(Region.ready md ops listed).contains i=true:=by kernel_rfl)
  (hQ:∀c a w,Q (.panic c) (a.put oi.dst undef) w→Q (.panic c) a w:=by exact fun _ _ _ h=>h)
  (hw:Region.wanted oi (yielded ops a.tmps)=false:=by rfl):wpAnyH P md ops Q S (fuel+1) listed a w:=
 wpAnyH_take hi hs hf hr hQ (Or.inr ⟨hw,rfl⟩) hS h
abbrev Hv (P:Program) (S:World→Prop) (a:Act) (oi:Oper) (v:Value):Prop:=∀w,S w→(execOp a.eval oi).run P w=.ok (.value v) w
theorem w_v (i:Nat) {oi:Oper} {v:Value} {fuel:Nat} {listed:Array Bool} {a:Act} {w:World} (hS:S w)
  (h:wpAnyH P md ops Q S fuel (listed.setIfInBounds i true) (a.put oi.dst v) w)
  (hi:ops[i]?=some oi:=by exact rfl) (hs:Region.noSelect ops=true:=by kernel_rfl) (hf:Region.free md ops listed i=true:=by kernel_rfl) (hr:(Region.ready md ops listed).contains i=true:=by kernel_rfl)
  (hQ:∀c a w,Q (.panic c) (a.put oi.dst v) w→Q (.panic c) a w:=by exact fun _ _ _ h=>h)
  (hw:Region.wanted oi (yielded ops a.tmps)=true:=by rfl) (k:Hv P S a oi v):wpAnyH P md ops Q S (fuel+1) listed a w:=
 wpT k hS h hi hs hf hr hQ hw
theorem w_r (i:Nat) {o:Oper} {fuel:Nat} {listed:Array Bool} {a:Act} {w:World}
  (h:∀K:Act→World→Prop,Shut (∀a w,S w→(S w→wpAnyH P md ops Q S fuel (listed.setIfInBounds i true) a w)→K a w)→if Region.wanted o (yielded ops a.tmps)=true then Oper.wp P o a w K Q else K (a.put o.dst undef) w)
  (hi:ops[i]?=some o:=by exact rfl) (hr:Region.ready md ops listed=[i]:=by kernel_rfl):wpAnyH P md ops Q S (fuel+1) listed a w:=
 wpAnyH_ready hr (by simp) (AllReadyH.cons hi h AllReadyH.nil)
theorem gE0 {α:Type _} {a:α} {l:List α}:(a::l)[0]?=some a:=List.getElem?_cons_zero
theorem gE1 {α:Type _} {a:α} {l:List α} {i:Nat}:(a::l)[i+1]?=l[i]?:=List.getElem?_cons_succ
theorem b_ (w:World) (o:Obj):RowKit.Below w.heap.size w (w.alloc o):=(RowKit.Below.refl w.heap.size w).alloc (Nat.le_refl _) o
theorem b0_ {B:Nat} {w:World}:RowKit.Below B w w:=RowKit.Below.refl _ _
theorem l_ {n:Nat}:n≤n:=Nat.le_refl n
theorem z_ {n:Nat}:0≤n:=Nat.zero_le n
theorem n_ {α:Sort _} (x:α):∃a,a=x:=⟨_,rfl⟩
theorem H_ {p:Prop} (h:p):RowKit.Hid p:=h
theorem o_ {p:Prop} (h:p:=by omega):p:=h
theorem s_ {p:Prop} (h:p:=by simp):p:=h
theorem m_ {P:Program} {f:FuncId} {x:Array Value} {w:World} {R R':Ending→World→Prop} (h:RowKit.Hid (Calls P f x w R)) (k:∀e w',R e w'→R' e w'):Calls P f x w R':=h.mono k
theorem w_d {fuel:Nat} {listed:Array Bool} {a:Act} {w:World} (h:Q .normal a w) (hd:Region.ready md ops listed=[]:=by kernel_rfl):wpAnyH P md ops Q S fuel listed a w:=wpAnyH_done hd h fuel
theorem w_h {id:Nat} {a:Act} (w:World) (h:RowKit.Below w.heap.size w w.drew→wpAnyH P .any ops Q (fun w'=>RowKit.Below w.heap.size w w') ops.size (Array.replicate ops.size false) a w.drew) (hp:P.follows Departure.mixedOrders=true:=by rfl):Code.wp P (Code.region id ops true) Q a w:=wp_region_held_drew (S:=fun w'=>RowKit.Below w.heap.size w w') hp ⟨rfl,rfl,rfl,Nat.le_refl _,fun _ _=>rfl⟩ h
abbrev c_:=@List.mem_singleton
abbrev d_:=@And.intro
abbrev e_:=@List.length_append
abbrev f_:=@List.mem_cons_of_mem
abbrev g_:=@Nat.le_trans
abbrev h_:=@List.mem_cons
abbrev i_:=@List.take_of_length_le
abbrev j_:=@List.getElem?_eq_getElem
abbrev k_:=@List.mem_append_right
abbrev p_:=@List.mem_cons_self
abbrev q_:=@List.mem_append
abbrev r_:=@List.length_cons
abbrev t_:=@List.getD_eq_getElem?_getD
abbrev u_:=@List.mem_of_getElem?
abbrev v_:=@List.take_succ_eq_append_getElem
abbrev w_:=@List.getElem_mem
abbrev x_:=@List.mem_append_left
abbrev y_:=@List.length_take
abbrev A_:=@Nat.zero_le
abbrev B_:=@Nat.le_refl
abbrev C_:=@List.getElem?_eq_some_iff
abbrev D_:=@List.nil_append
abbrev E_:=@Array.getElem?_eq_some_iff
abbrev F_:=@World.size_alloc
abbrev G_:=@World.ownsRow_nil
abbrev I_:=@List.length_drop
abbrev J_:=@List.append_assoc
abbrev K_:=@List.getElem?_append_left
abbrev L_:=@Nat.lt_of_lt_of_le
abbrev M_:=@IntWalk.i64_in
abbrev N_:=@Bool.and_eq_true
abbrev O_:=@World.putObj_heap_other
abbrev P_:=@List.flatMap_cons
abbrev Q_:=@List.set_cons_succ
abbrev R_:=@List.length_nil
abbrev S_:=@World.block_lt_of_cell?
abbrev T_:=@List.set_cons_zero
abbrev U_:=@List.cons_append
abbrev V_:=@World.cell?_setCell_other
abbrev W_:=@List.mem_flatMap
abbrev X_:=@World.cell?_of_block
abbrev Y_:=@List.all_eq_true
abbrev Z_:=@List.take_append_of_le_length
abbrev aa_:=@Array.getElem?_eq_getElem
abbrev ab_:=@List.any_eq_false
abbrev ac_:=@List.mem_filter
abbrev ad_:=@Nat.lt_or_ge
abbrev ae_:=@List.length_eq_zero_iff
abbrev af_:=@List.getElem?_append_right
abbrev ag_:=@List.take_append_drop
abbrev ah_:=@Option.some.inj
abbrev ai_:=@Bool.false_eq_true
abbrev aj_:=@Nat.mod_eq_of_lt
abbrev ak_:=@List.take_append_getElem
abbrev al_:=@List.map_cons
abbrev am_:=@Nat.zero_add
abbrev an_:=@Nat.eq_zero_or_pos
abbrev ao_:=@List.pairwise_cons
abbrev ap_:=@World.cell?_alloc_lt
abbrev aq_:=@Nat.le_add_right
abbrev ar_:=@List.not_mem_nil
abbrev au_:=@List.drop_append_of_le_length
abbrev av_:=@List.length_set
abbrev aw_:=@List.length_filter_le
abbrev ax_:=@List.length_singleton
abbrev ay_:=@List.pairwise_iff_getElem
abbrev az_:=@List.size_toArray
abbrev aA_:=@List.getElem?_drop
abbrev aB_:=@Array.getD_eq_getD_getElem?
abbrev aC_:=@List.drop_eq_nil_of_le
abbrev aD_:=@Option.some.injEq
abbrev aE_:=@List.nodup_append
abbrev aF_:=@List.any_eq_true
abbrev aG_:=@List.length_map
abbrev aH_:=@List.take_take
abbrev aI_:=@List.getElem_of_mem
abbrev aJ_:=@List.mem_take_iff_getElem
abbrev aK_:=@List.map_append
abbrev aL_:=@List.getElem_append_left
abbrev aM_:=@List.append_nil
abbrev aN_:=@List.eq_nil_of_length_eq_zero
abbrev aO_:=@List.drop_eq_getElem_cons
abbrev aP_:=@List.mem_map
abbrev aQ_:=@Nat.min_eq_left
abbrev aR_:=@Option.map_some
abbrev aS_:=@List.foldl_append
abbrev aT_:=@List.drop_left
abbrev aU_:=@Classical.byContradiction
abbrev aV_:=@World.cell?_setCell_same
abbrev aW_:=@List.drop_drop
abbrev aX_:=@List.foldl_cons
abbrev aY_:=@List.getElem?_take
abbrev aZ_:=@List.set_eq_take_append_cons_drop
abbrev a0_:=@Array.replicate_succ
abbrev a1_:=@Array.replicate_zero
abbrev a2_:=@List.mem_of_mem_take
abbrev a3_:=@List.getElem?_set_ne
abbrev a4_:=@Nat.le_of_eq
abbrev a5_:=@List.getElem_cons_zero
abbrev a6_:=@Nat.mul_one
abbrev a7_:=@List.append_toArray
abbrev a8_:=@List.filter_eq_self
abbrev a9_:=@List.mem_iff_getElem?
abbrev ba_:=@Nat.mul_le_mul_right
abbrev bb_:=@Prod.mk.injEq
abbrev bc_:=@List.map_nil
abbrev bd_:=@List.mem_range
abbrev be_:=@IntWalk.u64_in
abbrev bf_:=@List.push_toArray
abbrev bg_:=@Option.mem_toList
abbrev bh_:=@Array.toList_push
abbrev bi_:=@List.Pairwise.nil
abbrev bj_:=@List.find?_append
abbrev bk_:=@List.nodup_cons
abbrev bl_:=@List.flatMap_append
abbrev bm_:=@List.flatten_append
abbrev bn_:=@Bool.decide_and
abbrev bo_:=@List.toList_toArray
abbrev bp_:=@Nat.add_zero
abbrev bq_:=@List.sublist_append_right
abbrev br_:=@List.getElem?_modify
abbrev bs_:=@List.pairwise_append
abbrev bt_:=@Bool.not_eq_true'
abbrev bu_:=@List.length_pos_iff
abbrev bv_:=@List.filter_cons
abbrev bw_:=@List.getElem?_set_self
abbrev bx_:=@World.putObj_heap_same
abbrev by_:=@Nat.sub_self
abbrev bz_:=@Nat.add_mul
abbrev bA_:=@Array.getElem?_toList
abbrev bB_:=@Nat.mod_lt
abbrev bC_:=@List.sum_cons
abbrev bD_:=@List.flatten_cons
abbrev bE_:=@Int.tmod_eq_emod_of_nonneg
abbrev bF_:=@Array.toList_setIfInBounds
abbrev bG_:=@List.findIdx_getElem
abbrev bH_:=@List.getElem?_of_mem
abbrev bI_:=@World.alloc_heap_new
abbrev bJ_:=@List.mem_iff_getElem
abbrev bK_:=@Nat.pow_le_pow_right
abbrev bL_:=@List.getElem_append_right
abbrev bM_:=@List.mem_or_eq_of_mem_set
abbrev bN_:=@List.map_toArray
abbrev bO_:=@List.getElem_set
abbrev bP_:=@List.drop_append
abbrev bQ_:=@Array.toList_modify
abbrev bR_:=@List.drop_succ_cons
abbrev bS_:=@List.getD_cons_zero
abbrev bT_:=@List.all_append
abbrev bU_:=@Bool.or_eq_true
abbrev bV_:=@Option.isNone_some
abbrev bW_:=@Bool.not_true
abbrev bX_:=@Nat.add_sub_cancel
abbrev bY_:=@Nat.not_lt_zero
abbrev bZ_:=@List.filter_append
abbrev b1_:=@List.find?_cons
abbrev b2_:=@List.filter_eq_nil_iff
abbrev b3_:=@List.findIdx_lt_length
abbrev b4_:=@Option.map_eq_some_iff
abbrev b5_:=@List.getElem?_map
abbrev b6_:=@Array.size_append
abbrev b7_:=@List.length_replicate
abbrev b8_:=@Nat.le_of_lt
abbrev b9_:=@List.getElem?_eq_none
abbrev ca_:=@List.drop_length
abbrev cb_:=@List.take_length
abbrev cc_:=@Bool.or_eq_false_iff
abbrev cd_:=@List.mem_of_mem_drop
abbrev ce_:=@List.length_dropLast
abbrev cf_:=@Bool.true_and
abbrev cg_:=@Bool.or_false
abbrev ch_:=@List.take_succ_cons
abbrev ci_:=@Nat.two_pow_add_eq_or_of_lt
abbrev cj_:=@List.replicate_succ
abbrev ck_:=@List.map_set
abbrev cl_:=@Int.emod_lt_of_pos
abbrev cm_:=@List.map_map
abbrev cn_:=@List.Sublist.trans
abbrev co_:=@Nat.lt_or_gt_of_ne
abbrev cp_:=@List.find?_eq_none
abbrev cq_:=@List.findIdx?_eq_none_iff
abbrev cr_:=@List.mem_of_find?_eq_some
abbrev cs_:=@List.pairwise_map
abbrev ct_:=@Int.emod_eq_of_lt
abbrev cu_:=@Option.isSome_iff_exists
abbrev cv_:=@List.take_sublist
abbrev cw_:=@Function.comp_def
abbrev cx_:=@List.pairwise_singleton
abbrev cy_:=@List.getElem_map
abbrev cz_:=@List.ext_getElem
abbrev cA_:=@List.flatMap_nil
abbrev cB_:=@Int.natCast_zero
abbrev cC_:=@List.mem_nil_iff
abbrev cD_:=@Nat.succ_mul
abbrev cE_:=@Int.emod_nonneg
abbrev cF_:=@Bool.eq_iff_iff
abbrev cG_:=@Nat.min_self
abbrev cH_:=@Option.map_none
abbrev cI_:=@Bool.not_false
abbrev cJ_:=@List.take_left
abbrev cK_:=@Nat.mul_pos
abbrev cL_:=@Nat.pow_add
abbrev cM_:=@List.drop_set
abbrev cN_:=@Nat.add_assoc
abbrev cO_:=@Prod.ext
instance : Coe Nat Value:=⟨fun m=>.pointer (some ⟨m,0,none⟩)⟩
instance : Coe Int Value:=⟨fun i=>.int .i64 i⟩
instance : Coe Nat Addr:=⟨fun m=>⟨m,0,none⟩⟩
instance : Coe World Nat:=⟨fun w=>w.heap.size⟩
instance {n:Nat}:CoeDep (List Nat) [n] Value:=⟨.int .u64 n⟩
instance {n k:Nat}:CoeDep (Nat×Nat) (n,k) Addr:=⟨⟨n,k,none⟩⟩
instance {w:World} {k:Nat}:CoeDep (World×Nat) (w,k) Addr:=⟨⟨w.heap.size,k,none⟩⟩
end Go.Proofs.YtfbkjjdfboagfaaGreatDoor
namespace Go.Proofs.YtfbkjjdfboagfaaGreatDoor
open Go.Proofs.Tryz Go Go.RowKit Go.Lib Go.Shelf
section
theorem add_block (a:Addr) (n:Nat):(a.add n).block=a.block:=by
 unfold Addr.add;split<;>rfl
theorem lk2 (a:Addr) (i j:Nat):(a.add i).add j=a.add (i+j):=by
 unfold Addr.add
 rcases an_ i with hi|hi<;>rcases an_ j with hj|hj
 ·simp[hi,hj]
 ·rw[if_neg (by omega:¬j=0),if_pos hi,if_neg o_,hi,am_]
 ·rw[if_pos hj,hj,if_neg o_,if_neg o_]
  rfl
 ·rw[if_neg (by omega:¬j=0),if_neg (by omega:¬i=0),if_neg o_]
  simp only[cN_]
structure Row (B:Nat) (w:World) (A:Option Addr) (n size:Nat) (xs:List Value):Prop where
 len:xs.length=n *size
 cell:∀j (h:j < xs.length),∃a,A=some a/\a.block < B/\w.cell? (a.add j)=some (xs[j])
variable {B B' n size:Nat} {w w':World} {A:Option Addr} {xs:List Value}
theorem Row.nil_:Row B w A 0 size []:=⟨by simp,fun j h=>absurd h s_⟩
theorem Row.up (h:Row B w A n size xs) (o:B<=B'):Row B' w A n size xs:=
 ⟨h.len,fun j hj=>let ⟨a,e,b,c⟩:=h.cell j hj;⟨a,e,o_,c⟩⟩
theorem Row.keep (h:Row B w A n size xs) (o:∀p:Addr,p.block < B->w'.cell? p=w.cell? p):Row B w' A n size xs:=
 ⟨h.len,fun j hj=>let ⟨a,e,b,c⟩:=h.cell j hj;⟨a,e,b,(o _ (by rw[add_block];exact b)).trans c⟩⟩
theorem Row.below (h:Row B w A n size xs) (o:Below B w w'):Row B w' A n size xs:=h.keep fun _ z=>o.cell z
theorem Row.arg (h:Row B w A n size xs) (o:B<=(w:Nat)):Row w w A n size xs:=h.up o
theorem Row.alloc (h:Row B w A n size xs) (z:B<=(w:Nat)) (o:Obj):Row B (w.alloc o) A n size xs:=
 h.keep fun p C=>ap_ w o p o_
theorem Row.drew (h:Row B w A n size xs):Row B w.drew A n size xs:=h.keep fun _ _=>rfl
theorem Row.drewN (h:Row B w A n size xs) (k:Nat):Row B (w.drewN k) A n size xs:=h.keep fun _ _=>rfl
theorem Row.setCell (h:Row B w A n size xs) {p:Addr} (o:B<=p.block) (u:Value):Row B (w.setCell p u) A n size xs:=
 h.keep fun q z=>V_ w p q u (fun e=>by subst e;omega)
theorem Row.at1 (h:Row B w A n 1 xs) {k:Nat} (z:k < n):∃a v,A=some a/\a.block < B/\xs[k]?=some v/\w.cell? (a.add k)=some v:=by
 have o:k < xs.length:=by have:=h.len;omega
 obtain⟨a,e,b,c⟩:=h.cell k o;exact⟨a,xs[k],e,b,j_ o,c⟩
theorem Row.some_ (h:Row B w A n size xs) (o:0 < xs.length):∃a,A=some a/\a.block < B:=by
 obtain⟨a,e,b,_⟩:=h.cell 0 o;exact⟨a,e,b⟩
theorem Row.cells {a:Addr} (h:Row B w (some a) n size xs):∀j u,xs[j]?=some u->w.cell? (a.add j)=some u:=by
 intro j u o;obtain⟨z,rfl⟩:=C_.1 o;obtain⟨C,e,_,c⟩:=h.cell j z;injection e with e;subst e;exact c
theorem Row.cut (h:Row B w A n size xs) {k m:Nat} (O:k<=m) (Q:m<=n) {A':Option Addr} (E:k < m->A'=A.map (·.add (k *size))):
  Row B w A' (m - k) size ((xs.drop (k *size)).take ((m - k)*size)):=by
 have H:(m - k)*size<=xs.length - k *size:=by
  rw[h.len,<-Nat.sub_mul];exact ba_ _ o_
 refine⟨by rw[y_,I_];omega,fun j hj=>?_⟩;have o:j < (m - k)*size:=by rw[y_]at hj;omega
 have z:k < m:=by
  rcases ad_ k m with C|C
  ·exact C
  ·rw[show m - k=0 from by omega,Nat.zero_mul]at o;omega
 obtain⟨a,rfl,I,J⟩:=h.cell (k *size+j) o_;refine⟨a.add (k *size),E z,by rw[add_block];exact I,?_⟩;rw[lk2,J];simp
theorem Row.pre (h:Row B w A n size xs) {m:Nat} (o:m<=n):Row B w A m size (xs.take (m *size)):=by
 have:=h.cut (A':=A) (A_ m) o (fun _=>by cases A<;>simp[Addr.add]);simpa using this
theorem Row.new (w:World) (cs:Array Value) (e:TypeId) {n size:Nat} (o:cs.size=n *size) (z:Nat×Nat:=(0,0)):Row ((w:Nat)+1) (w.alloc (.cells cs e z)) (some ⟨w,0,none⟩) n size cs.toList:=by
 refine⟨by simpa using o,fun j hj=>⟨_,rfl,by simp,?_⟩⟩;have:((⟨w,0,none⟩:Addr).add j)=⟨w,j,none⟩:=by
  unfold Addr.add;split<;>simp_all
 rw[this,cell_of_row _ _ _ _ _ _ (heap_alloc_new w _)];simp at hj ⊢
theorem Row.own {base:Nat} {e:TypeId} {c:Nat} (h:w.ownsRow base e size (.slice A n c) n xs):Row w w A n size xs:=by
 refine⟨h.1,fun j hj=>?_⟩
 rcases h.2 with ⟨z,C⟩|⟨g,cap,cur,z,I,E,_,_,_,o⟩
 ·subst C
  have:=h.1;omega
 ·injection z with H _ _
  subst H;exact⟨_,rfl,(E_.1 E).1,h.cells (g:=g) rfl j _ (j_ hj)⟩
theorem ay {base:Nat} {e:TypeId} {v:Value} (h:w.ownsRow base e size v n xs):
  ∃A c,v=.slice A n c/\n<=c/\c<=maxLen/\(∀a,A=some a->base<=a.block/\a.block < (w:Nat)/\a.spot=none/\a.off=0):=by
 rcases h.2 with ⟨rfl,rfl⟩|⟨g,cap,cur,rfl,o,z,C,E,_⟩
 ·exact⟨none,0,rfl,B_ _,A_ _,fun a h=>by cases h⟩
 ·exact⟨_,cap,rfl,C,E,fun a h=>by cases h;exact⟨o,(E_.1 z).1,rfl,rfl⟩⟩
theorem own_below {base:Nat} {e:TypeId} {v:Value} (h:w.ownsRow base e size v n xs) (o:Below w w w'):w'.ownsRow base e size v n xs:=
 h.kept (row:=none) ⟨o.os,o.tape,o.output,o.size,fun k z _=>o.block k z⟩ (by cases v.ownBlock<;>simp)
theorem own_base {base base':Nat} {e:TypeId} {v:Value} (h:w.ownsRow base e size v n xs) (z:base'<=base):w.ownsRow base' e size v n xs:=by
 refine⟨h.1,?_⟩
 rcases h.2 with o|⟨g,cap,cur,rfl,h1,r⟩
 ·exact .inl o
 ·exact .inr ⟨g,cap,cur,rfl,o_,r⟩
theorem gy2 {base:Nat} {e:TypeId} {v:Value} {a:World} (h:Below base a w) (o:w.ownsRow base e size v n xs) (z:w.grownBy w' v.ownBlock) (C:base<=(w:Nat)):Below base a w':=
 h.grown z C (fun k E=>(o.lt k E).1)
theorem below_drewN {B:Nat} {a w:World} (h:Below B a w) (n:Nat):Below B a (w.drewN n):=⟨h.os,h.tape,h.output,h.size,h.block⟩
theorem xx5 {P:Program} (w:World) (base:Nat) (t ty e:TypeId) (i:TypeInfo) (z:Value) (size bytes:Nat) (U:P.underlying t=some (.slice e)) (hi:P.info? e=some i) (hz:i.zero=some z)
  (E:i.size=size) (a0:i.bytes=bytes) (a1:z.cells.size=size) (I:0 < size) (v:Value) (n:Nat) (xs:List Value) (o:w.ownsRow base e size v n xs)
  (B:Nat) (A:Option Addr) (m c:Nat) (news:List Value) (J:Row B w A m size news) (h1:∀u∈news,u.oneCell'=true)
  (a2:n+m<=maxLen) (C:(n+m)*bytes<=140737488355328) (H:base<=(w:Nat)):
  ∃A' c' w',(Builtin.append_ #[t,t] ty #[v,.slice A m c]).run P w=.ok (.slice A' (n+m) c') w'/\w'.ownsRow base e size (.slice A' (n+m) c') (n+m) (xs++news)/\w.grownBy w' v.ownBlock/\n+m<=c'/\c'<=maxLen:=by
 have pack:∀O w',(Builtin.append_ #[t,t] ty #[v,.slice A m c]).run P w=.ok O w'->w'.ownsRow base e size O (n+m) (xs++news)->w.grownBy w' v.ownBlock->
   ∃A' c' w',(Builtin.append_ #[t,t] ty #[v,.slice A m c]).run P w=.ok (.slice A' (n+m) c') w'/\w'.ownsRow base e size (.slice A' (n+m) c') (n+m) (xs++news)/\w.grownBy w' v.ownBlock/\n+m<=c'/\c'<=maxLen:=by
  intro O w' h2 h3 h4;obtain⟨A',c',rfl,h5,h6,_⟩:=ay h3;exact⟨A',c',w',h2,h3,h4,h5,h6⟩
 rcases an_ m with h0|h0
 ·subst h0
  have hn:news=[]:=aN_ (by simpa using J.len);subst hn;rw[aM_]at pack ⊢;refine pack v w ?_ o ⟨rfl,rfl,rfl,B_ _,fun _ _ _=>rfl⟩
  rcases o.2 with ⟨rfl,rfl⟩|⟨g,cap,cur,rfl,_,_,a5,_⟩
  ·rcases A with _|a<;>simp[Builtin.append_,run_underlying U,sizeOf,typeInfo,hi,Builtin.lenOf,Builtin.firstCells,loadCells,loadCellsFrom]
  ·rcases A with _|a<;>simp[Builtin.append_,run_underlying U,sizeOf,typeInfo,hi,Builtin.lenOf,Builtin.firstCells,loadCells,loadCellsFrom,a5,storeCells]
 ·have Q:0 < news.length:=by
   rw[J.len];exact cK_ h0 I
  obtain⟨a,rfl,_⟩:=J.some_ Q;obtain⟨O,w',h2,h3,h4,_⟩:=run_append_own_at (P:=P) w base t ty e i z size bytes U hi hz E a0 a1 I v n xs o a m c news J.len J.cells h1 a2 C H;exact pack O w' h2 h3 h4
theorem cq6 {P:Program} (w:World) {o:Oper} {a:Act} {K:Act->World->Prop} {Q:Exit->Act->World->Prop} (s x:Operand) (t:TypeId)
  (ho:o.op=.call { callee:=.builtin .append,args:=#[s,x],argTypes:=#[t,t] })
  (base:Nat) (e:TypeId) (i:TypeInfo) (z:Value) (size bytes:Nat) (ht:P.underlying t=some (.slice e)) (hi:P.info? e=some i) (hz:i.zero=some z)
  (I:i.size=size) (O:i.bytes=bytes) (U:z.cells.size=size) (a0:0 < size) (w0:World) (hb:Below base w0 w) (C:base<=(w:Nat)) (v:Value) (n:Nat) (xs:List Value) (hs:a.eval s=v) (H:w.ownsRow base e size v n xs)
  (B:Nat) (A:Option Addr) (m c:Nat) (news:List Value) (hx:a.eval x=.slice A m c) (hr:Row B w A m size news) (h1:∀u∈news,u.oneCell'=true)
  (a1:n+m<=maxLen) (E:(n+m)*bytes<=140737488355328)
  (h:∀A' c' w',w'.ownsRow base e size (.slice A' (n+m) c') (n+m) (xs++news)->Below base w0 w'->w.grownBy w' v.ownBlock->n+m<=c'->c'<=maxLen->K (a.put o.dst (.slice A' (n+m) c')) w'):o.wp P a w K Q:=by
 obtain⟨A',c',w',J,h2,h3,h4,h5⟩:=xx5 (P:=P) w base t o.type e i z size bytes ht hi hz I O U a0 v n xs H B A m c news hr h1 a1 E C;unfold Oper.wp execOp;simp only[ho,resolve,invoke,builtin,Sem.run_bind,Sem.run_pure,Result.andThen_ok,bN_,al_,bc_,hs,hx,J];exact h A' c' w' h2 (gy2 hb H h3 C) h3 h4 h5
theorem iy {P:Program} {w:World} {ops:Array Oper} {rest:List Oper} {o:Oper} {a:Act} {Q:Exit->Act->World->Prop} (J:o.guard=none) (s x:Operand) (t:TypeId)
  (ho:o.op=.call { callee:=.builtin .append,args:=#[s,x],argTypes:=#[t,t] })
  (base:Nat) (e:TypeId) (i:TypeInfo) (z:Value) (size bytes:Nat) (ht:P.underlying t=some (.slice e)) (hi:P.info? e=some i) (hz:i.zero=some z)
  (E:i.size=size) (O:i.bytes=bytes) (U:z.cells.size=size) (a0:0 < size) (w0:World) (hb:Below base w0 w) (H:base<=(w:Nat)) (v:Value) (n:Nat) (xs:List Value) (hs:a.eval s=v) (I:w.ownsRow base e size v n xs)
  (B:Nat) (A:Option Addr) (m c:Nat) (news:List Value) (hx:a.eval x=.slice A m c) (hr:Row B w A m size news) (h1:∀u∈news,u.oneCell'=true)
  (N:Nat) (X:List Value) (hN:n+m=N) (hX:xs++news=X) (a1:N<=maxLen) (C:N *bytes<=140737488355328)
  (h:∀A' c' w',w'.ownsRow base e size (.slice A' N c') N X->Below base w0 w'->w.grownBy w' v.ownBlock->N<=c'->c'<=maxLen->wpList P ops Q rest (a.put o.dst (.slice A' N c')) w'):wpList P ops Q (o::rest) a w:=by
 subst hN;subst hX;exact wpList_plain J fun _ hK=>cq6 w s x t ho base e i z size bytes ht hi hz E O U a0 w0 hb H v n xs hs I B A m c news hx hr h1 a1 C fun A' c' w' h2 h3 h4 h5 h6=>hK _ _ (h A' c' w' h2 h3 h4 h5 h6)
theorem yx {P:Program} {w:World} {ops:Array Oper} {rest:List Oper} {o:Oper} {a:Act} {Q:Exit->Act->World->Prop} (I:o.guard=none) (s x:Operand) (t:TypeId)
  (ho:o.op=.call { callee:=.builtin .append,args:=#[s,x],argTypes:=#[t,t] })
  (base:Nat) (e:TypeId) (i:TypeInfo) (z:Value) (size bytes:Nat) (ht:P.underlying t=some (.slice e)) (hi:P.info? e=some i) (hz:i.zero=some z)
  (E:i.size=size) (J:i.bytes=bytes) (O:z.cells.size=size) (U:0 < size) (w0:World) (hb:Below base w0 w) (H:base<=(w:Nat)) (hs:a.eval s=.slice none 0 0)
  (B:Nat) (A:Option Addr) (m c:Nat) (news:List Value) (hx:a.eval x=.slice A m c) (hr:Row B w A m size news) (h1:∀u∈news,u.oneCell'=true)
  (a0:m<=maxLen) (C:m *bytes<=140737488355328)
  (h:∀A' c' w',w'.ownsRow base e size (.slice A' m c') m news->Below base w0 w'->w.grownBy w' none->m<=c'->c'<=maxLen->wpList P ops Q rest (a.put o.dst (.slice A' m c')) w'):wpList P ops Q (o::rest) a w:=
 iy I s x t ho base e i z size bytes ht hi hz E J O U w0 hb H (.slice none 0 0) 0 [] hs (G_ _ _ _ _) B A m c news hx hr h1 m news (am_ m) (D_ news) a0 C
  (by simpa [Value.ownBlock] using h)
theorem fq6 {P:Program} (t e:TypeId) (i:TypeInfo) (z:Value) (E:P.underlying t=some (.slice e)) (hi:P.info? e=some i) (H:i.zero=some z) (h1:i.size=1) (o:z.cells=#[z]) (n:Nat) (J:i.bytes *n<=281474976710656) (O:n<=9223372036854775807):
  ∃cs:Array Value,cs.toList=List.replicate n z/\∀W:World,(Instr.makeSlice t (.int .i64 n) (.int .i64 n)).run P W=.ok (.slice (some (W:Nat)) n n) (W.alloc (.cells cs e)):=by
 refine⟨madeCells #[z] n,toList_madeCells_one z n,fun W=>?_⟩;have C:(i.bytes:Int)*(n:Int)<=281474976710656:=by
  have h:((i.bytes *n:Nat):Int)<=281474976710656:=o_
  rwa [Int.natCast_mul]at h
 have I:=run_make (P:=P) W t e i z E hi H .i64 .i64 n n o_ o_ C o_;simpa [h1,o] using I
def Stop (p:Prop):Prop:=p
theorem iq {p:Prop} (h:Stop p):p:=h
theorem gz {p:Prop} (h:p):Stop p:=h
def bts (l:List UInt8):List Value:=l.map fun c=>.int .u8 c.toNat
theorem uq (l:List UInt8):(bts l).length=l.length:=by simp[bts]
theorem px4 (l:List UInt8) (k:Nat):(bts l)[k]?=(l[k]?).map fun c=>.int .u8 c.toNat:=by simp[bts]
theorem zj1 (a b:List UInt8):bts (a++b)=bts a++bts b:=by simp[bts]
theorem jq1 (l:List UInt8) (k:Nat):bts (l.take k)=(bts l).take k:=by simp[bts]
theorem uv2 (l:List UInt8) (k:Nat):bts (l.drop k)=(bts l).drop k:=by simp[bts]
theorem by1 (l:List UInt8):∀u∈bts l,u.oneCell'=true:=by
 intro u o;simp only[bts,aP_]at o;obtain⟨c,_,rfl⟩:=o;rfl
theorem Row.bt {l:List UInt8} (h:Row B w A n 1 (bts l)) {k:Nat} (C:k < n):∃a,∃z:k < l.length,A=some a/\a.block < B/\w.cell? (a.add k)=some (.int .u8 ((l[k]).toNat:Int)):=by
 obtain⟨a,v,e,b,o,E⟩:=h.at1 C;have z:k < l.length:=by have:=h.len;rw[uq]at this;omega
 rw[px4,j_ z]at o;injection o with o;exact⟨a,z,e,b,by rw[E,<-o]⟩
theorem Row.xk {l:List UInt8} (h:Row B w A n 1 (bts l)):l.length=n:=by have:=h.len;rw[uq]at this;omega
theorem foldl_push (l:List UInt8):∀s:ByteArray,(l.map fun c=>(c.toNat:Int)).foldl (fun r n=>r.push (UInt8.ofNat n.toNat)) s=⟨s.data++l.toArray⟩:=by
 induction l with
 |nil=>intro s;simp
 |cons c l o=>
  intro s;rw[al_,aX_,o]
  congr 1
  apply Array.toList_inj.1;simp[ByteArray.push]
theorem Row.load {P:Program} {a:Addr} (h:Row B w (some a) n 1 xs):(loadCells a n).run P w=.ok xs.toArray w:=by
 have o:=h.len;have:=run_loadCells_list (P:=P) (w:=w) a xs h.cells
 rwa [show xs.length=n from by omega]at this
theorem iq5 {P:Program} {l:List UInt8} (src dst e:TypeId) (C:P.underlying src=some (.slice e)) (o:P.underlying e=some (.int .u8)) (hd:P.underlying dst=some .string)
  (h:Row B w A n 1 (bts l)) (c:Nat):(convert src dst (.slice A n c)).run P w=.ok (.string ⟨l.toArray⟩) w:=by
 rw[run_convert_bytes_string w src dst e A n c C o hd];have E:=h.xk
 rcases A with _|a
 ·have H:n=0:=by
   rcases an_ n with z|z
   ·exact z
   ·obtain⟨_,_,o,_⟩:=h.bt z
    cases o
  subst H;obtain rfl:=aN_ E;rfl
 ·rw[run_bytesToString w a n c (l.map fun c=>(c.toNat:Int)) (by rw[h.load];simp[bts,cw_]),foldl_push]
  simp
end
section
theorem yz (k:Nat) (x:BitVec k):BitVec.ofInt k (x.toNat:Int)=x:=by
 apply BitVec.eq_of_toNat_eq;simp
theorem tk2 (x y:BitVec 32):bits .and .u32 (x.toNat:Int) (y.toNat:Int)=((x&&&y).toNat:Int):=by
 show IntKind.u32.wrap ((BitVec.ofInt 32 (x.toNat:Int) &&&BitVec.ofInt 32 (y.toNat:Int)).toNat:Int)=_
 rw[yz,yz,IntKind.wrap_u32'];omega
theorem xy1 (x y:BitVec 32):bits .xor .u32 (x.toNat:Int) (y.toNat:Int)=((x ^^^ y).toNat:Int):=by
 show IntKind.u32.wrap ((BitVec.ofInt 32 (x.toNat:Int) ^^^ BitVec.ofInt 32 (y.toNat:Int)).toNat:Int)=_
 rw[yz,yz,IntKind.wrap_u32'];omega
theorem qx2 (x y:BitVec 64):bits .and .u64 (x.toNat:Int) (y.toNat:Int)=((x&&&y).toNat:Int):=by
 show IntKind.u64.wrap ((BitVec.ofInt 64 (x.toNat:Int) &&&BitVec.ofInt 64 (y.toNat:Int)).toNat:Int)=_
 rw[yz,yz,IntKind.wrap_u64];omega
theorem zv4 (x y:BitVec 64):bits .or .u64 (x.toNat:Int) (y.toNat:Int)=((x|||y).toNat:Int):=by
 show IntKind.u64.wrap ((BitVec.ofInt 64 (x.toNat:Int)|||BitVec.ofInt 64 (y.toNat:Int)).toNat:Int)=_
 rw[yz,yz,IntKind.wrap_u64];omega
theorem nv2 (x y:BitVec 64):bits .xor .u64 (x.toNat:Int) (y.toNat:Int)=((x ^^^ y).toNat:Int):=by
 show IntKind.u64.wrap ((BitVec.ofInt 64 (x.toNat:Int) ^^^ BitVec.ofInt 64 (y.toNat:Int)).toNat:Int)=_
 rw[yz,yz,IntKind.wrap_u64];omega
theorem fq5 (a:Int) (k:Nat) (z:k < 63):∃m:Nat,bits .and .i64 a (2 ^ k - 1:Nat)=(m:Int)/\m < 2 ^ k:=by
 have h2:2 ^ k < 2 ^ 63:=Nat.pow_lt_pow_right o_ z;have o:0 < 2 ^ k:=Nat.pow_pos o_;have e:bits .and .i64 a ((2 ^ k - 1:Nat):Int)=IntKind.i64.wrap ((BitVec.ofInt 64 a&&&BitVec.ofInt 64 ((2 ^ k - 1:Nat):Int)).toNat:Int):=rfl;have C:(BitVec.ofInt 64 ((2 ^ k - 1:Nat):Int)).toNat=2 ^ k - 1:=by
  rw[BitVec.ofInt_natCast,BitVec.toNat_ofNat];exact aj_ o_
 have E:(BitVec.ofInt 64 a&&&BitVec.ofInt 64 ((2 ^ k - 1:Nat):Int)).toNat<=2 ^ k - 1:=by
  rw[BitVec.toNat_and,C];exact Nat.and_le_right
 refine⟨(BitVec.ofInt 64 a&&&BitVec.ofInt 64 ((2 ^ k - 1:Nat):Int)).toNat,?_,o_⟩;rw[e,IntKind.wrap_i64];omega
theorem fx4 (x:BitVec 64) (k:Nat) (z:k < 64):∃m:Nat,bits .and .u64 (x.toNat:Int) ((2 ^ k - 1:Nat):Int)=(m:Int)/\m < 2 ^ k/\m=x.toNat % 2 ^ k:=by
 have h2:2 ^ k < 2 ^ 64:=Nat.pow_lt_pow_right o_ z;have o:0 < 2 ^ k:=Nat.pow_pos o_;have C:((2 ^ k - 1:Nat):Int)=((BitVec.ofNat 64 (2 ^ k - 1)).toNat:Int):=by
  rw[BitVec.toNat_ofNat,aj_ o_]
 refine⟨x.toNat % 2 ^ k,?_,bB_ _ o,rfl⟩;rw[C,qx2,BitVec.toNat_and,BitVec.toNat_ofNat,aj_ o_,Nat.and_two_pow_sub_one_eq_mod]
theorem aq6 (c:UInt8):((c.toNat:Int) % 4294967296)=((BitVec.ofNat 32 c.toNat).toNat:Int):=by
 have:=c.toNat_lt;simp;omega
theorem aw6 (c:UInt8):(c.toNat:Int)=((BitVec.ofNat 64 c.toNat).toNat:Int):=by
 have:=c.toNat_lt;simp
theorem int_eq {k:IntKind} {a b:Int} (h:a=b):Value.int k a=Value.int k b:=by rw[h]
theorem bq4 {v o:Value} (h:v=o):Ending.returned v=Ending.returned o:=by rw[h]
namespace Crc
def poly:BitVec 32:=0x82f63b78#32
def step (n:BitVec 32):BitVec 32:=(n >>> 1) ^^^ (poly&&&-(n&&&1#32))
def steps:Nat->BitVec 32->BitVec 32
 |0,n=>n
 |k+1,n=>steps k (step n)
def byte (n:BitVec 32) (c:UInt8):BitVec 32:=steps 8 (n ^^^ BitVec.ofNat 32 c.toNat)
def add (n:BitVec 32):List UInt8->BitVec 32
 |[]=>n
 |c::l=>add (byte n c) l
def ones:BitVec 32:=0xffffffff#32
def sum (l:List UInt8):BitVec 32:= ~~~ add ones l
theorem ox2 (n:BitVec 32) (a b:List UInt8):add n (a++b)=add (add n a) b:=by
 induction a generalizing n with
 |nil=>rfl
 |cons c l o=>exact o (byte n c)
theorem rz3 (k:Nat) (n:BitVec 32):steps (k+1) n=step (steps k n):=by
 induction k generalizing n with
 |zero=>rfl
 |succ k o=>exact o (step n)
def four (n:BitVec 32):List UInt8:=[UInt8.ofNat n.toNat,UInt8.ofNat (n.toNat / 256),UInt8.ofNat (n.toNat / 65536),UInt8.ofNat (n.toNat / 16777216)]
def oz (l:List UInt8):List UInt8:=l++four (sum l)
end Crc
namespace Fnv
def basis:BitVec 64:=14695981039346656037#64
def prime:BitVec 64:=1099511628211#64
def byte (h:BitVec 64) (c:UInt8):BitVec 64:=(h ^^^ BitVec.ofNat 64 c.toNat)*prime
def go (h:BitVec 64):List UInt8->BitVec 64
 |[]=>h
 |c::l=>go (byte h c) l
def hash (l:List UInt8):BitVec 64:=go basis l
theorem yq4 (h:BitVec 64) (a b:List UInt8):go h (a++b)=go (go h a) b:=by
 induction a generalizing h with
 |nil=>rfl
 |cons c l o=>exact o (byte h c)
theorem sw5 (h:BitVec 64) (l:List UInt8) (k:Nat) (o:k < l.length):go h (l.take (k+1))=byte (go h (l.take k)) l[k]:=by
 rw[v_ o,yq4];rfl
end Fnv
theorem zx2 (x:BitVec 32):bits .xor .u32 ((x.toNat:Int) / 2) (bits .and .u32 2197175160 (-bits .and .u32 (x.toNat:Int) 1 % 4294967296))=((Crc.step x).toNat:Int):=by
 have h1:bits .and .u32 (x.toNat:Int) 1=((x&&&1#32).toNat:Int):=tk2 x 1#32;have h2:-((x&&&1#32).toNat:Int) % 4294967296=((-(x&&&1#32)).toNat:Int):=by
  rw[BitVec.toNat_neg];have:=(x&&&1#32).isLt;omega
 have h3:((x.toNat:Int) / (2:Int))=((x >>> 1).toNat:Int):=by
  rw[BitVec.toNat_ushiftRight,Nat.shiftRight_eq_div_pow];omega
 have h4:bits .and .u32 2197175160 ((-(x&&&1#32)).toNat:Int)=((Crc.poly&&&-(x&&&1#32)).toNat:Int):=tk2 Crc.poly _;rw[h1,h2,h3,h4,xy1];rfl
theorem lk3 (x:BitVec 32):bits .xor .u32 IntKind.u32.max (x.toNat:Int)=((~~~x).toNat:Int):=by
 have h:bits .xor .u32 IntKind.u32.max (x.toNat:Int)=((BitVec.allOnes 32 ^^^ x).toNat:Int):=xy1 (BitVec.allOnes 32) x;rw[h,BitVec.allOnes_xor]
theorem fx3 (m:BitVec 32) (l:List UInt8) (k:Nat) (o:k < l.length):Crc.add m (l.take (k+1))=Crc.byte (Crc.add m (l.take k)) l[k]:=by
 rw[v_ o,Crc.ox2];rfl
theorem add_any (m:BitVec 32) (A:Option Addr) (n c:Nat) (l:List UInt8) (w:World) (Q:n<=9223372036854775807) (z:Row w w A n 1 (bts l)):
  Calls Tryz.prog 305 #[.int .u32 m.toNat,.slice A n c] w fun e w'=>e=.returned (.int .u32 ((Crc.add m l).toNat:Int))/\w=w':=by
 go_enter Tryz.func305,Tryz.ntmps305;go_wp2
 go_loop [0,9,6] (fun x i _=>∃k:Nat,k<=n/\i=.int .i64 k/\x=.int .u32 ((Crc.add m (l.take k)).toNat:Int)) (fun _ i _=>n - (intOf i).toNat)
 case atStart=>exact⟨0,A_ _,rfl,rfl⟩
 case round=>
  obtain⟨k,U,rfl,rfl⟩:=hrel
  by_cases o:k < n
  ·obtain⟨a,H,rfl,_,hc⟩:=z.bt o
   go_wp2
   go_loop [0,17] (fun x i=>∃j:Nat,j<=8/\i=.int .i64 j/\x=.int .u32 ((Crc.steps j (Crc.add m (l.take k) ^^^ BitVec.ofNat 32 l[k].toNat)).toNat:Int)) (fun _ i=>8 - (intOf i).toNat)
   case atStart=>exact⟨0,A_ _,rfl,int_eq (by rw[aq6,xy1];rfl)⟩
   case round=>
    obtain⟨j,hj,rfl,rfl⟩:=hrel;generalize C:Crc.steps j (Crc.add m (l.take k) ^^^ BitVec.ofNat 32 l[k].toNat)=x;have E:=H_ C;clear C;have I:0<=(x.toNat:Int):=o_
    have J:(x.toNat:Int)<=4294967295:=by have:=x.isLt;omega
    by_cases O:j < 8
    ·go_wp2
     go_round
     case rel=>exact⟨j+1,o_,by go_num,int_eq (by rw[zx2,Crc.rz3,E.out])⟩
     case measure=>simp[intOf];omega
    ·go_wp2
     go_round
     case rel=>exact⟨k+1,o_,by go_num,int_eq (by
      obtain rfl:j=8:=o_
      rw[fx3 m l k H,Crc.byte,E.out])⟩
     case measure=>simp[intOf];omega
  ·go_wp2
   go_ret;exact⟨bq4 (int_eq (by rw[i_ (by have:=z.xk;omega)])),rfl⟩
def yw2 (B:Nat) (w:World) (P:Option Addr) (n:Nat) (ls:List (List UInt8)):Prop:=
 ∃vs,Row B w P n 1 vs/\ls.length=n/\∀i (h:i < ls.length),∃A k c,vs[i]?=some (.slice A k c)/\k<=c/\c<=maxLen/\Row B w A k 1 (bts ls[i])
theorem yw2.at_ {B:Nat} {w:World} {P:Option Addr} {n:Nat} {ls:List (List UInt8)} (h:yw2 B w P n ls) {i:Nat} (hi:i < n):
  ∃a A k c,∃z:i < ls.length,P=some a/\a.block < B/\w.cell? (a.add i)=some (.slice A k c)/\k<=c/\c<=maxLen/\Row B w A k 1 (bts ls[i]):=by
 obtain⟨vs,C,z,E⟩:=h;obtain⟨a,v,e,b,o,H⟩:=C.at1 hi;obtain⟨A,k,c,h1,h2,h3,h4⟩:=E i o_;rw[h1]at o;injection o with o;exact⟨a,A,k,c,o_,e,b,by rw[H,<-o],h2,h3,h4⟩
theorem yw2.below {B:Nat} {w w':World} {P:Option Addr} {n:Nat} {ls:List (List UInt8)} (h:yw2 B w P n ls) (o:Below B w w'):yw2 B w' P n ls:=by
 obtain⟨vs,z,C,E⟩:=h;exact⟨vs,z.below o,C,fun i hi=>let ⟨A,k,c,h1,h2,h3,h4⟩:=E i hi;⟨A,k,c,h1,h2,h3,h4.below o⟩⟩
def ox1 (m:BitVec 32):List (List UInt8)->BitVec 32
 |[]=>m
 |l::ls=>ox1 (Crc.add m l) ls
theorem vw2 (m:BitVec 32) (a b:List (List UInt8)):ox1 m (a++b)=ox1 (ox1 m a) b:=by
 induction a generalizing m with
 |nil=>rfl
 |cons x l o=>exact o _
theorem sy3 (m:BitVec 32) (ls:List (List UInt8)) (k:Nat) (o:k < ls.length):ox1 m (ls.take (k+1))=Crc.add (ox1 m (ls.take k)) ls[k]:=by
 rw[v_ o,vw2];rfl
theorem qk3 (m:BitVec 32) (ls:List (List UInt8)):ox1 m ls=Crc.add m ls.flatten:=by
 induction ls generalizing m with
 |nil=>rfl
 |cons x l o=>rw[bD_,Crc.ox2];exact o _
theorem pk4 (P:Option Addr) (n c:Nat) (ls:List (List UInt8)) (w:World) (U:n<=9223372036854775807) (E:yw2 w w P n ls):
  Calls Tryz.prog 284 #[.slice P n c] w fun e w'=>e=.returned (.int .u32 ((Crc.sum ls.flatten).toNat:Int))/\w=w':=by
 go_enter Tryz.func284,Tryz.ntmps284;go_wp2
 go_loop [3,8,5] (fun x i _=>∃k:Nat,k<=n/\i=.int .i64 k/\x=.int .u32 ((ox1 Crc.ones (ls.take k)).toNat:Int)) (fun _ i _=>n - (intOf i).toNat)
 case atStart=>exact⟨0,A_ _,rfl,rfl⟩
 case round=>
  obtain⟨k,hk,rfl,rfl⟩:=hrel
  by_cases o:k < n
  ·obtain⟨a,A,k',c',I,rfl,_,hc,J,z,C⟩:=E.at_ o
   unfold maxLen at z;go_wp2_with (go_at_call 305;refine(add_any _ _ _ _ _ _ o_ C).mono ?_;rintro e w' ⟨rfl,rfl⟩)
   go_round
   case rel=>exact⟨k+1,o_,by go_num,int_eq (by rw[sy3 _ _ _ I])⟩
   case measure=>simp[intOf];omega
  ·have O:0<=((ox1 Crc.ones (ls.take k)).toNat:Int):=o_
   have Q:((ox1 Crc.ones (ls.take k)).toNat:Int)<=4294967295:=by have:=(ox1 Crc.ones (ls.take k)).isLt;omega
   go_wp2;go_ret;have H:ls.length=n:=by obtain⟨_,_,h,_⟩:=E;exact h
   refine⟨bq4 (int_eq ?_),rfl⟩;rw[i_ o_,qk3,lk3];rfl
theorem uk5 (w:World) (e:TypeId) (A:Option Addr) (n c:Nat) (l:List UInt8) (o:Row w w A n 1 (bts l)) (z:n<=c) (C:c<=maxLen):
  yw2 (w.alloc (.cells #[.slice A n c] e)).heap.size (w.alloc (.cells #[.slice A n c] e)) (some ⟨w,0,none⟩) 1 [l]:=by
 refine⟨_,(Row.new w #[.slice A n c] e (n:=1) (size:=1) rfl).up s_,rfl,fun i hi=>?_⟩;obtain rfl:i=0:=by simpa using hi
 exact⟨A,n,c,rfl,z,C,(o.alloc l_ _).up s_⟩
theorem ck6 (A:Option Addr) (n c:Nat) (l:List UInt8) (w:World) (o:n<=c) (z:c<=maxLen) (C:Row w w A n 1 (bts l)):
  Calls Tryz.prog 246 #[.slice A n c] w fun e w'=>e=.returned (.int .u32 ((Crc.sum l).toNat:Int))/\Below w w w':=by
 have E:=uk5 w 77 A n c l C o z;go_enter Tryz.func246,Tryz.ntmps246;go_wp2_with (go_at_call 284;refine(pk4 _ _ _ _ _ o_ E).mono ?_;rintro e w' ⟨rfl,rfl⟩);go_ret;refine⟨bq4 (int_eq s_),b_ _ _⟩
namespace Pn
def putF:Nat->Nat->List UInt8
 |0,n=>[UInt8.ofNat n]
 |k+1,n=>if n < 128 then [UInt8.ofNat n] else UInt8.ofNat (n % 128+128)::putF k (n / 128)
def put (n:Nat):List UInt8:=putF 9 n
def takeF:Nat->Nat->List UInt8->Nat×Nat×Nat
 |_,_,[]=>(0,0,4)
 |i,acc,c::r=>if (i=9/\1 < c.toNat)\/(0 < i/\c.toNat=0) then (0,0,3) else if c.toNat < 128 then (acc+c.toNat *2 ^ (7 *i),i+1,0) else takeF (i+1) (acc+(c.toNat - 128)*2 ^ (7 *i)) r
def take (l:List UInt8):Nat×Nat×Nat:=takeF 0 0 l
def unlistF:Nat->Nat->List UInt8->List Nat->List Nat×Nat×Nat
 |0,at_,_,out=>(out,at_,0)
 |k+1,at_,l,out=>match take (l.drop at_) with
  |(x,size,0)=>unlistF k (at_+size) l (out++[x])
  |(_,_,e)=>([],0,e)
def vw (l:List UInt8) (most:Nat):List Nat×Nat×Nat:=match take l with
  |(n,at_,0)=>if most < n then ([],0,2) else unlistF n at_ l []
  |(_,_,e)=>([],0,e)
def list (l:List Nat):List UInt8:=put l.length++l.flatMap put
theorem wv3:∀k n,1<=(putF k n).length/\(putF k n).length<=k+1
 |0,_=>by simp[putF]
 |k+1,n=>by
  have:=wv3 k (n / 128);unfold putF;split<;>simp<;>omega
theorem jq (n:Nat):1<=(put n).length/\(put n).length<=10:=wv3 9 n
theorem pow7 (i:Nat):2 ^ (7 *(i+1))=128 *2 ^ (7 *i):=by
 rw[show 7 *(i+1)=7 *i+7 from by omega,cL_];omega
theorem ww2 (n:Nat) (h:n < 256):(UInt8.ofNat n).toNat=n:=by
 rw[UInt8.toNat_ofNat'];omega
theorem rz2:∀(k i acc n:Nat) (r:List UInt8),i+k=9->(0 < i->0 < n)->n < 2 ^ (64 - 7 *i)->takeF i acc (putF k n++r)=(acc+n *2 ^ (7 *i),i+(putF k n).length,0)
 |0,i,acc,n,r,hi,o,z=>by
  obtain rfl:i=9:=o_
  have h2:n < 2:=by simpa using z
  have:=o o_;have e:(UInt8.ofNat n).toNat=n:=ww2 n o_;simp only[putF,U_,D_,takeF,e];rw[if_neg o_,if_pos o_];simp
 |k+1,i,acc,n,r,hi,o,z=>by
  unfold putF;split
  ·rename_i C
   have e:(UInt8.ofNat n).toNat=n:=ww2 n o_;simp only[U_,D_,takeF,e];rw[if_neg o_,if_pos o_];simp
  ·rename_i C
   have e:(UInt8.ofNat (n % 128+128)).toNat=n % 128+128:=ww2 _ o_;simp only[U_,takeF,e];rw[if_neg o_,if_neg o_];have h1:n / 128 < 2 ^ (64 - 7 *(i+1)):=by
    rw[Nat.div_lt_iff_lt_mul (by decide)];have:2 ^ (64 - 7 *(i+1))*128=2 ^ (64 - 7 *i):=by
     rw[show (128:Nat)=2 ^ 7 from rfl,<-cL_]
     congr 1
     omega
    omega
   rw[rz2 k (i+1) _ (n / 128) r o_ o_ h1,pow7]
   congr 1
   ·have:n=128 *(n / 128)+n % 128:=(Nat.div_add_mod n 128).symm
    have E:n *2 ^ (7 *i)=n / 128 *(128 *2 ^ (7 *i))+(n % 128)*2 ^ (7 *i):=by
     conv=>lhs;rw[this]
     rw[bz_,Nat.mul_comm 128 (n / 128),Nat.mul_assoc]
    rw[E];have H:n % 128+128 - 128=n % 128:=o_
    rw[H];omega
   ·simp only[r_]
    congr 1
    omega
theorem rq (n:Nat) (r:List UInt8) (o:n < 2 ^ 64):take (put n++r)=(n,(put n).length,0):=by
 have:=rz2 9 0 0 n r rfl o_ (by simpa using o);simpa [take,put] using this
end Pn
structure Chg (F:List Nat) (w w':World):Prop where
 os:w'.os=w.os
 tape:w'.tape=w.tape
 output:w'.output=w.output
 size:(w:Nat)<=(w':Nat)
 block:∀k,k < (w:Nat)->k∉F->w'.heap[k]?=w.heap[k]?
variable {F G:List Nat} {w w' w'':World}
theorem Chg.refl (F:List Nat) (w:World):Chg F w w:=⟨rfl,rfl,rfl,B_ _,fun _ _ _=>rfl⟩
theorem Chg.trans (h:Chg F w w') (k:Chg G w' w'') (z:∀g∈G,g∈F\/(w:Nat)<=g):Chg F w w'':=
 ⟨k.os.trans h.os,k.tape.trans h.tape,k.output.trans h.output,g_ h.size k.size,fun b o hF=>(k.block b (L_ o h.size) (fun C=>by
  rcases z b C with h1|h1
  ·exact hF h1
  ·omega)).trans (h.block b o hF)⟩
theorem Chg.mono (h:Chg F w w') (hF:∀g∈F,g∈G\/(w:Nat)<=g):Chg G w w':=
 ⟨h.os,h.tape,h.output,h.size,fun b o z=>h.block b o (fun C=>by
  rcases hF b C with h1|h1
  ·exact z h1
  ·omega)⟩
theorem Chg.of_below (h:Below w w w') (F:List Nat):Chg F w w':=⟨h.os,h.tape,h.output,h.size,fun b o _=>h.block b o⟩
theorem Chg.below (h:Chg F w w') {B:Nat} (o:B<=(w:Nat)) (hF:∀g∈F,B<=g):Below B w w':=⟨h.os,h.tape,h.output,h.size,fun b z=>h.block b (L_ z o) (fun C=>by have:=hF b C;omega)⟩
theorem Chg.qy {g:Option Nat} (h:w.grownBy w' g) (o:∀b,g=some b->b∈F):Chg F w w':=⟨h.os,h.tape,h.output,h.size,fun b z hF=>h.block b z (fun e=>hF (o b e.symm))⟩
theorem Chg.drew (h:Chg F w w'):Chg F w w'.drew:=⟨h.os,h.tape,h.output,h.size,h.block⟩
theorem Chg.cell (h:Chg F w w') {p:Addr} (o:p.block < (w:Nat)) (hF:p.block∉F):w'.cell? p=w.cell? p:=X_ (h.block p.block o hF)
theorem Chg.row {B n size:Nat} {A:Option Addr} {xs:List Value} (h:Chg F w w') (r:Row B w A n size xs) (o:B<=(w:Nat)) (hF:∀a,A=some a->a.block∉F):Row B w' A n size xs:=
 ⟨r.len,fun j hj=>let ⟨a,e,b,c⟩:=r.cell j hj;⟨a,e,b,(h.cell (p:=a.add j) (by rw[add_block];omega) (by rw[add_block];exact hF a e)).trans c⟩⟩
theorem az {w X w1:World} (h:Below w w X) (h1:Below X X w1):Below w w w1:=h.trans (h1.mono h.size)
theorem ax {B:Nat} {w X:World} (h:Below B w X):Below B w X.drew:=⟨h.os,h.tape,h.output,h.size,h.block⟩
theorem Chg.alloc (h:Chg F w w') (o:Obj):Chg F w (w'.alloc o):=
 h.trans (Chg.of_below (b_ _ o) []) (fun g z=>by cases z)
theorem Chg.setCell (h:Chg F w w') {p:Addr} (v:Value) (o:p.block∈F\/(w:Nat)<=p.block):Chg F w (w'.setCell p v):=
 ⟨h.os,h.tape,h.output,by simpa using h.size,fun k z hF=>by
  have e:(w'.setCell p v).heap[k]?=w'.heap[k]?:=by
   refine Below.heap_setCell w' p v k (fun e=>?_);subst e
   rcases o with o|o
   ·exact hF o
   ·omega
  rw[e];exact h.block k z hF⟩
end
section
theorem gv1:(Tryz.prog.info? 5).map (fun i=>(i.zero,i.size,i.bytes))=some (some (.int .u8 0),1,1):=by kernel_rfl
theorem ly4 (x:BitVec 32):bts (Crc.four x)=[.int .u8 ((x.toNat:Int) % 256),.int .u8 ((x.toNat:Int) / 256 % 256),.int .u8 ((x.toNat:Int) / 65536 % 256),.int .u8 ((x.toNat:Int) / 16777216)]:=by
 have:=x.isLt;have h4:x.toNat / 16777216 % 256=x.toNat / 16777216:=aj_ o_;simp[bts,Crc.four,h4]
theorem cz2 (A:Option Addr) (n c:Nat) (l:List UInt8) (w:World) (hn:n<=c) (hm:c<=maxLen) (a4:n<=1073741824) (hr:Row w w A n 1 (bts l)):
  Calls Tryz.prog 202 #[.slice A n c] w fun e w'=>∃A' c',e=.returned (.slice A' (n+4) c')/\w'.ownsRow w 5 1 (.slice A' (n+4) c') (n+4) (bts (Crc.oz l))/\n+4<=c'/\c'<=maxLen/\Below w w w':=by
 obtain⟨i0,H,I,J,O⟩:=info_parts gv1;go_enter Tryz.func202,Tryz.ntmps202;go_wp2_with fail;refine(ck6 A n c l w hn hm hr).mono ?_;rintro e w1 ⟨rfl,o⟩;generalize hx:Crc.sum l=x;have HX:=H_ hx;clear hx;have b0:0<=(x.toNat:Int):=o_
 have b1:(x.toNat:Int)<=4294967295:=by have:=x.isLt;omega
 go_wp2_with (at_builtin;refine iq ?_);refine gz (yx rfl (.const (.slice none 0 0)) (.tmp 6) _ rfl (w:Nat) 5 i0 _ 1 1 Tryz.underlying77 H I J O rfl o_ w o o.size rfl (w:Nat) A n c (bts l) rfl (hr.below o) (by1 l) (by unfold maxLen;omega) o_ ?_);intro A2 c2 Q z C b2 b3 b5;go_wp2_with (at_builtin;refine iq ?_);have U:Row ((Q:Nat)+1) (Q.alloc (.cells #[.int .u8 ((x.toNat:Int) % 256),.int .u8 ((x.toNat:Int) / 256 % 256),.int .u8 ((x.toNat:Int) / 65536 % 256),.int .u8 ((x.toNat:Int) / 16777216)] 5)) (some ⟨Q,0,none⟩) 4 1 (bts (Crc.four x)):=by
  rw[ly4];exact Row.new Q _ _ rfl
 refine gz (iy rfl (.tmp 7) (.tmp 19) _ rfl (w:Nat) 5 i0 _ 1 1 Tryz.underlying77 H I J O rfl o_ w (C.alloc C.size _) (by have:=C.size;simp;omega) (.slice A2 n c2) n (bts l) rfl (z.alloc _) ((Q:Nat)+1) _ 4 4 (bts (Crc.four x)) rfl U (by1 _) (n+4) (bts (l++Crc.four x)) rfl (zj1 _ _).symm (by unfold maxLen;omega) o_ ?_);intro A3 c3 w3 E a0 _ a1 a2;go_wp2;go_ret;exact⟨A3,c3,rfl,by rw[Crc.oz,HX.out];exact E,a1,a2,a0⟩
theorem az6 (x:Nat):bits .or .u8 ((x:Int) % 256) 128=((UInt8.ofNat (x % 128+128)).toNat:Int):=by
 have key:∀y:Fin 256,bits .or .u8 ((y.val:Nat):Int) 128=((y.val % 128+128:Nat):Int):=by decide+kernel
 have h:=key ⟨x % 256,bB_ _ (by decide)⟩;simp only at h;rw[show ((x:Int) % 256)=((x % 256:Nat):Int) from by omega,h,UInt8.toNat_ofNat'];omega
theorem ex2 (x:Nat):(x:Int) % 256=((UInt8.ofNat x).toNat:Int):=by
 rw[UInt8.toNat_ofNat'];omega
theorem rj3 (w:World) (e:TypeId) (c:UInt8):Row ((w:Nat)+1) (w.alloc (.cells #[.int .u8 c.toNat] e)) (some ⟨w,0,none⟩) 1 1 (bts [c]):=by
 have:=Row.new w #[.int .u8 c.toNat] e (n:=1) (size:=1) rfl;simpa [bts] using this
theorem put_any (A:Option Addr) (N c:Nat) (l:List UInt8) (n:Nat) (hn:n < 18446744073709551616) (w:World) (hN:N<=1073741824) (hr:Row w w A N 1 (bts l)):
  Calls Tryz.prog 175 #[.slice A N c,[n]] w fun e w'=>∃A' c',e=.returned (.slice A' (N+(Pn.put n).length) c')/\
   w'.ownsRow w 5 1 (.slice A' (N+(Pn.put n).length) c') (N+(Pn.put n).length) (bts (l++Pn.put n))/\N+(Pn.put n).length<=c'/\c'<=maxLen/\Below w w w':=by
 obtain⟨i0,O,Q,U,a0⟩:=info_parts gv1;go_enter Tryz.func175,Tryz.ntmps175;go_wp2_with (at_builtin;refine iq ?_);refine gz (yx rfl (.const (.slice none 0 0)) (.tmp 6) _ rfl (w:Nat) 5 i0 _ 1 1 Tryz.underlying77 O Q U a0 rfl o_ w b0_ l_ rfl (w:Nat) A N c (bts l) rfl hr (by1 l) (by unfold maxLen;omega) o_ ?_);intro A2 c2 w2 a1 a' c9 b0 b1;go_wp2
 go_loopw [5,1] (fun o m wr=>∃(k n':Nat) (pre:List UInt8) (A':Option Addr) (c':Nat),o=.slice A' (N+k) c'/\m=.int .u64 n'/\wr.ownsRow w 5 1 (.slice A' (N+k) c') (N+k) (bts (l++pre))/\N+k<=c'/\c'<=maxLen/\
  pre++Pn.putF (9 - k) n'=Pn.put n/\k<=9/\n' < 2 ^ (64 - 7 *k)/\Below w w wr) (fun _ m _=>(intOf m).toNat)
 case atStart=>exact⟨0,n,[],A2,c2,rfl,rfl,by simpa using a1,b0,b1,rfl,o_,by simpa using hn,a'⟩
 case round=>
  obtain⟨k,n',pre,A',c',rfl,rfl,E,d0,d1,hp,hk,hl,hb⟩:=hrel;have I:pre.length=k:=by
   have h1:=E.1;rw[uq,e_]at h1;have h2:=hr.xk;omega
  have HP:=H_ hp;have HL:=H_ hl;have b2:=H_ I;have d3:n' < 18446744073709551616:=by
   refine L_ hl ?_;exact bK_ (n:=2) (by decide) (show 64 - 7 *k<=64 by omega)
  clear hp hl I
  by_cases b9:128<=n'
  ·have b3:((n':Int) < 128)=False:=by simp;omega
   have d4:((128:Int)<=(n':Int)):=o_
   go_wp2_with (at_builtin;refine iq ?_);have z:Row ((wr:Nat)+1) (wr.alloc (.cells #[.int .u8 ((UInt8.ofNat (n' % 128+128)).toNat:Int)] 5)) (some ⟨wr,0,none⟩) 1 1 (bts [UInt8.ofNat (n' % 128+128)]):=rj3 _ _ _;rw[<-az6]at z;refine gz (iy rfl (.tmp 12) (.tmp 16) _ rfl (w:Nat) 5 i0 _ 1 1 Tryz.underlying77 O Q U a0 rfl o_ w (hb.alloc hb.size _) (g_ hb.size s_) _ (N+k) (bts (l++pre)) rfl (E.alloc _) ((wr:Nat)+1) _ 1 1 (bts [UInt8.ofNat (n' % 128+128)]) rfl z (by1 _) (N+(k+1)) (bts (l++(pre++[UInt8.ofNat (n' % 128+128)]))) o_ (by simp[bts]) (by unfold maxLen;omega) o_ ?_);intro A3 c3 w3 C a2 _ a4 a5;go_wp2;go_roundw
   case rel=>
    have hp:pre++Pn.putF (9 - k) n'=Pn.put n:=HP;have hl:n' < 2 ^ (64 - 7 *k):=HL;have d6:k≠9:=by
     rintro rfl;omega
    refine⟨k+1,n' / 128,pre++[UInt8.ofNat (n' % 128+128)],A3,c3,rfl,?_,C,a4,a5,?_,o_,?_,a2⟩
    ·go_num
    ·rw[<-hp,show 9 - k=(9 - (k+1))+1 from by omega,Pn.putF,if_neg o_]
     simp
    ·rw[Nat.div_lt_iff_lt_mul (by decide),show (128:Nat)=2 ^ 7 from rfl,<-cL_,show 64 - 7 *(k+1)+7=64 - 7 *k from by omega]
     exact hl
   case measure=>simp[intOf];omega
  ·have b3:((128:Int)<=(n':Int))=False:=by simp;omega
   go_wp2_with (at_builtin;refine iq ?_);have z:Row ((wr:Nat)+1) (wr.alloc (.cells #[.int .u8 ((UInt8.ofNat n').toNat:Int)] 5)) (some ⟨wr,0,none⟩) 1 1 (bts [UInt8.ofNat n']):=rj3 _ _ _;rw[show ((UInt8.ofNat n').toNat:Int)=(n':Int) from by rw[<-ex2];omega]at z;have H:pre++[UInt8.ofNat n']=Pn.put n:=by
    have hp:pre++Pn.putF (9 - k) n'=Pn.put n:=HP;rw[<-hp]
    cases h9:9 - k with
    |zero=>rfl
    |succ j=>rw[Pn.putF,if_pos o_]
   have J:k+1=(Pn.put n).length:=by
    have I:pre.length=k:=b2;rw[<-H];simp[I]
   have HF:=H_ H;have b6:=H_ J;clear H J;refine gz (iy rfl (.tmp 18) (.tmp 21) _ rfl (w:Nat) 5 i0 _ 1 1 Tryz.underlying77 O Q U a0 rfl o_ w (hb.alloc hb.size _) (g_ hb.size s_) _ (N+k) (bts (l++pre)) rfl (E.alloc _) ((wr:Nat)+1) _ 1 1 (bts [UInt8.ofNat n']) rfl z (by1 _) (N+(Pn.put n).length) (bts (l++Pn.put n)) (by have h:k+1=(Pn.put n).length:=b6;omega) (by have h:pre++[UInt8.ofNat n']=Pn.put n:=HF;rw[<-h];simp[bts]) (by have:=(Pn.jq n).2;unfold maxLen;omega) (by have:=(Pn.jq n).2;omega) ?_);intro A3 c3 w3 C a2 _ a4 a5;go_wp2;go_ret;exact⟨A3,c3,rfl,C,a4,a5,a2⟩
theorem rv5 (x:UInt8):bits .and .u8 (x.toNat:Int) 127=((x.toNat % 128:Nat):Int):=by
 have key:∀y:Fin 256,bits .and .u8 ((y.val:Nat):Int) 127=((y.val % 128:Nat):Int):=by decide+kernel
 exact key ⟨x.toNat,x.toNat_lt⟩
theorem qv2 (y:Nat) (h:y < 18446744073709551616):IntKind.u64.wrap (y:Int)=(y:Int):=by
 rw[IntKind.wrap_u64];omega
theorem zv5 (acc m k:Nat) (C:acc < 2 ^ k) (z:m *2 ^ k < 18446744073709551616) (o:acc < 18446744073709551616):bits .or .u64 (acc:Int) ((m *2 ^ k:Nat):Int)=((acc+m *2 ^ k:Nat):Int):=by
 have h1:((BitVec.ofNat 64 acc).toNat:Int)=(acc:Int):=by rw[BitVec.toNat_ofNat,aj_ o]
 have h2:((BitVec.ofNat 64 (m *2 ^ k)).toNat:Int)=((m *2 ^ k:Nat):Int):=by rw[BitVec.toNat_ofNat,aj_ z]
 rw[<-h1,<-h2,zv4,BitVec.toNat_or,BitVec.toNat_ofNat,BitVec.toNat_ofNat,aj_ o,aj_ z]
 congr 1
 rw[Nat.or_comm,Nat.mul_comm,<-ci_ C];omega
theorem bj6 (acc:Nat) (x:UInt8) (k:Nat) (H:k<=9) (C:k=9->x.toNat<=1) (E:acc < 2 ^ (7 *k)):
  bits .or .u64 (acc:Int) (IntKind.u64.wrap (IntKind.u64.wrap (bits .and .u8 (x.toNat:Int) 127)*2 ^ (7 *k)))=((acc+x.toNat % 128 *2 ^ (7 *k):Nat):Int)/\acc+x.toNat % 128 *2 ^ (7 *k) < 2 ^ (7 *(k+1)):=by
 have I:x.toNat % 128 < 128:=bB_ _ (by decide);have J:2 ^ (7 *k)<=2 ^ 63:=bK_ (by decide) o_;have z:x.toNat % 128 *2 ^ (7 *k) < 18446744073709551616:=by
  by_cases e:k=9
  ·subst e
   have:=C rfl;omega
  ·have o:2 ^ (7 *k)<=2 ^ 56:=bK_ (by decide) o_
   have:x.toNat % 128 *2 ^ (7 *k)<=127 *2 ^ 56:=Nat.mul_le_mul o_ o;omega
 constructor
 ·rw[rv5,qv2 _ o_]
  have e:((x.toNat % 128:Nat):Int)*2 ^ (7 *k)=((x.toNat % 128 *2 ^ (7 *k):Nat):Int):=by push_cast;rfl
  rw[e,qv2 _ z,zv5 _ _ _ E z o_]
 ·rw[Pn.pow7]
  have:x.toNat % 128 *2 ^ (7 *k)<=127 *2 ^ (7 *k):=ba_ _ o_;omega
theorem take_any (A:Option Addr) (N c:Nat) (l:List UInt8) (w:World) (hN:N<=1073741824) (hr:Row w w A N 1 (bts l)):
  Calls Tryz.prog 86 #[.slice A N c] w fun e w'=>e=.returned (.tuple #[.int .u64 ((Pn.take l).1:Int),.int .i64 ((Pn.take l).2.1:Int),.int .i64 ((Pn.take l).2.2:Int)])/\w=w':=by
 have a':=hr.xk;go_enter Tryz.func86,Tryz.ntmps86;go_wp2
 go_loop [2,9] (fun x i=>∃(k acc:Nat),k<=N/\k<=9/\acc < 2 ^ (7 *k)/\x=.int .u64 acc/\i=.int .i64 k/\Hid (Pn.take l=Pn.takeF k acc (l.drop k))) (fun _ i=>N - (intOf i).toNat)
 case atStart=>exact⟨0,0,A_ _,A_ _,by decide,rfl,rfl,H_ (by rfl)⟩
 case round=>
  obtain⟨k,acc,hk,a2,E,rfl,rfl,hh⟩:=hrel
  by_cases a5:k < N
  ·obtain⟨a,hl,rfl,_,hc⟩:=hr.bt a5
   have C:Pn.take l=Pn.takeF k acc (l[k]::l.drop (k+1)):=by
    have h:Pn.take l=Pn.takeF k acc (l.drop k):=hh;rw[h,aO_ hl]
   generalize l[k]=x at *;have HS:=H_ C;have HA:=H_ E;clear hh C E;have hx:x.toNat < 256:=x.toNat_lt
   by_cases b1:(k=9/\1 < x.toNat)\/(0 < k/\x.toNat=0)
   ·have z:Pn.take l=(0,0,3):=by
     have h:Pn.take l=Pn.takeF k acc (x::l.drop (k+1)):=HS;rw[h,Pn.takeF,if_pos b1]
    have HR:=H_ z;clear z;have fin:Ending.returned (Value.tuple #[Value.int IntKind.u64 0,Value.int IntKind.i64 0,Value.int IntKind.i64 3])=.returned (.tuple #[.int .u64 ((Pn.take l).1:Int),.int .i64 ((Pn.take l).2.1:Int),.int .i64 ((Pn.take l).2.2:Int)]):=by
     have h:Pn.take l=(0,0,3):=HR;rw[h];rfl
    have o:=H_ fin;clear fin
    rcases b1 with ⟨b1,b2⟩|⟨b1,b2⟩
    ·subst b1
     have J:w.cell? { block:=a.block,off:=a.off+9 }=some (.int .u8 x.toNat):=by simpa [Addr.add] using hc
     have c2:((1:Int) < (x.toNat:Int)):=o_
     go_wp2;exact bodyPost_ret (v:=.tuple #[.int .u64 0,.int .i64 0,.int .i64 3]) (by simp[results,go_sem]) rfl ⟨o,rfl⟩
    ·by_cases O:k=9
     ·subst O
      have J:w.cell? { block:=a.block,off:=a.off+9 }=some (.int .u8 x.toNat):=by simpa [Addr.add] using hc
      have c2:((1:Int) < (x.toNat:Int))=False:=by simp;omega
      have c4:((x.toNat:Int)==0)=true:=by simp;omega
      go_wp2;exact bodyPost_ret (v:=.tuple #[.int .u64 0,.int .i64 0,.int .i64 3]) (by simp[results,go_sem]) rfl ⟨o,rfl⟩
     ·have c1:((k:Int)==9)=false:=by simp;omega
      have c3:((0:Int) < (k:Int)):=o_
      have c4:((x.toNat:Int)==0)=true:=by simp;omega
      go_wp2;exact bodyPost_ret (v:=.tuple #[.int .u64 0,.int .i64 0,.int .i64 3]) (by simp[results,go_sem]) rfl ⟨o,rfl⟩
   ·obtain⟨Q,H⟩:=bj6 acc x k a2 (fun e=>o_) HA
    generalize I:acc+x.toNat % 128 *2 ^ (7 *k)=R at Q H;have U:=H_ H;have HR:=H_ I;clear H I
    by_cases O:x.toNat < 128
    ·have c5:((x.toNat:Int) < 128):=o_
     have z:Pn.take l=(R,k+1,0):=by
      have I:acc+x.toNat % 128 *2 ^ (7 *k)=R:=HR;have h:Pn.take l=Pn.takeF k acc (x::l.drop (k+1)):=HS;rw[h,Pn.takeF,if_neg b1,if_pos O,<-I,aj_ O]
     have fin:Ending.returned (Value.tuple #[Value.int IntKind.u64 ((R:Nat):Int),Value.int IntKind.i64 ((k:Int)+1),Value.int IntKind.i64 0])=.returned (.tuple #[.int .u64 ((Pn.take l).1:Int),.int .i64 ((Pn.take l).2.1:Int),.int .i64 ((Pn.take l).2.2:Int)]):=by
      rw[z];rfl
     have o:=H_ fin;clear fin z
     by_cases d1:k=9
     ·subst d1
      have J:w.cell? { block:=a.block,off:=a.off+9 }=some (.int .u8 x.toNat):=by simpa [Addr.add] using hc
      have b6:bits .or .u64 (acc:Int) (IntKind.u64.wrap (IntKind.u64.wrap (bits .and .u8 (x.toNat:Int) 127)*9223372036854775808))=(R:Int):=Q;have c2:((1:Int) < (x.toNat:Int))=False:=by simp;omega
      have c4:((x.toNat:Int)==0)=false:=by simp;omega
      go_wp2;refine bodyPost_ret (v:=.tuple #[.int .u64 ((R:Nat):Int),.int .i64 10,.int .i64 0]) (by simp[results,go_sem]) rfl ⟨o,rfl⟩
     ·have c1:((k:Int)==9)=false:=by simp;omega
      by_cases d2:0 < k
      ·have c3:((0:Int) < (k:Int)):=o_
       have c4:((x.toNat:Int)==0)=false:=by simp;omega
       go_wp2;refine bodyPost_ret (v:=.tuple #[.int .u64 ((R:Nat):Int),.int .i64 ((k:Int)+1),.int .i64 0]) (by simp[results,go_sem]) rfl ⟨o,rfl⟩
      ·have c3:((0:Int) < (k:Int))=False:=by simp;omega
       go_wp2;refine bodyPost_ret (v:=.tuple #[.int .u64 ((R:Nat):Int),.int .i64 ((k:Int)+1),.int .i64 0]) (by simp[results,go_sem]) rfl ⟨o,rfl⟩
    ·have c5:((x.toNat:Int) < 128)=False:=by simp;omega
     have c4:((x.toNat:Int)==0)=false:=by simp;omega
     have d1:k≠9:=o_
     have c1:((k:Int)==9)=false:=by simp;omega
     have a0:Pn.take l=Pn.takeF (k+1) R (l.drop (k+1)):=by
      have I:acc+x.toNat % 128 *2 ^ (7 *k)=R:=HR;have h:Pn.take l=Pn.takeF k acc (x::l.drop (k+1)):=HS;rw[h,Pn.takeF,if_neg b1,if_neg O,<-I,show x.toNat % 128=x.toNat - 128 from by omega]
     have HN:=H_ a0;clear a0
     by_cases d2:0 < k
     ·have c3:((0:Int) < (k:Int)):=o_
      go_wp2
      go_round
      case rel=>exact⟨k+1,R,o_,o_,U,rfl,by go_num,HN⟩
      case measure=>simp[intOf];omega
     ·have c3:((0:Int) < (k:Int))=False:=by simp;omega
      go_wp2
      go_round
      case rel=>exact⟨k+1,R,o_,o_,U,rfl,by go_num,HN⟩
      case measure=>simp[intOf];omega
  ·have z:Pn.take l=(0,0,4):=by
    have h:Pn.take l=Pn.takeF k acc (l.drop k):=hh;rw[h,aC_ o_];rfl
   have fin:Ending.returned (Value.tuple #[Value.int IntKind.u64 0,Value.int IntKind.i64 0,Value.int IntKind.i64 4])=.returned (.tuple #[.int .u64 ((Pn.take l).1:Int),.int .i64 ((Pn.take l).2.1:Int),.int .i64 ((Pn.take l).2.2:Int)]):=by
    rw[z];rfl
   have o:=H_ fin;clear fin z;go_wp2;exact bodyPost_ret (v:=.tuple #[.int .u64 0,.int .i64 0,.int .i64 4]) (by simp[results,go_sem]) rfl ⟨o,rfl⟩
namespace Fr
def head (k n:Nat):List UInt8:=[UInt8.ofNat k,UInt8.ofNat (n / 65536),UInt8.ofNat (n / 256),UInt8.ofNat n]
def put (k:Nat) (b:List UInt8):List UInt8:=Crc.oz (head k b.length)++Crc.oz b
def u (l:List UInt8) (i:Nat):Nat:=(l.getD i 0).toNat
def size (l:List UInt8):Nat:=u l 1 *65536+u l 2 *256+u l 3
def take (l:List UInt8) (p:Nat):Nat×List UInt8×Nat×Nat:=
 if l.length - p < 8 then (0,[],0,4)
 else if Crc.oz ((l.drop p).take 4)≠(l.drop p).take 8 then (0,[],0,5)
 else if u (l.drop p) 0 < 1\/100 < u (l.drop p) 0\/60000 < size (l.drop p) then (0,[],0,3)
 else if l.length - p - 8 < size (l.drop p)+4 then (0,[],0,4)
 else if Crc.oz ((l.drop (p+8)).take (size (l.drop p)))≠(l.drop (p+8)).take (size (l.drop p)+4) then (0,[],0,5)
 else (u (l.drop p) 0,(l.drop (p+8)).take (size (l.drop p)),p+8+size (l.drop p)+4,0)
def splitF:Nat->List UInt8->Nat->List Nat->List (List UInt8)->List Nat×List (List UInt8)×Nat×Nat
 |0,_,e,ks,bs=>(ks,bs,e,0)
 |f+1,l,e,ks,bs=>if e < l.length then
   (if (take l e).2.2.2=0 then splitF f l (take l e).2.2.1 (ks++[(take l e).1]) (bs++[(take l e).2.1]) else (ks,bs,e,(take l e).2.2.2))
  else (ks,bs,e,0)
def split (l:List UInt8):List Nat×List (List UInt8)×Nat×Nat:=splitF (l.length+1) l 0 [] []
theorem tv3 (x:BitVec 32):(Crc.four x).length=4:=rfl
theorem zq1 (l:List UInt8):(Crc.oz l).length=l.length+4:=by simp[Crc.oz,tv3]
theorem oq (k:Nat) (b:List UInt8):(put k b).length=b.length+12:=by simp[put,zq1,head];omega
theorem u8n (n:Nat) (h:n < 256):(UInt8.ofNat n).toNat=n:=by
 rw[UInt8.toNat_ofNat'];omega
theorem vj1 {l:List UInt8} {p:Nat} (h:(take l p).2.2.2=0):p+12<=(take l p).2.2.1/\(take l p).2.2.1<=l.length:=by
 unfold take at h ⊢;split at h
 ·simp at h
 ·split at h
  ·simp at h
  ·split at h
   ·simp at h
   ·split at h
    ·simp at h
    ·split at h
     ·simp at h
     ·rename_i h1 h2 h3 h4 h5
      rw[if_neg h1,if_neg h2,if_neg h3,if_neg h4,if_neg h5];simp only;omega
theorem sv2 (k n:Nat) (r:List UInt8) (o:k < 256) (z:n<=60000):u (head k n++r) 0=k/\size (head k n++r)=n:=by
 constructor
 ·simp[u,head,u8n k o]
 ·simp only[size,u,head,U_,D_,bS_,List.getD_cons_succ,UInt8.toNat_ofNat']
  omega
theorem mq1 (l r:List UInt8):(Crc.oz l++r).take l.length=l:=by
 simp[Crc.oz,J_]
theorem oq1 (l r:List UInt8):(Crc.oz l++r).take (l.length+4)=Crc.oz l:=by
 rw[<-zq1,cJ_]
theorem rq4 (k:Nat) (b r:List UInt8):put k b++r=head k b.length++(Crc.four (Crc.sum (head k b.length))++(Crc.oz b++r)):=by
 simp[put,Crc.oz]
theorem oj5 (k:Nat) (b r:List UInt8):(put k b++r).drop 8=Crc.oz b++r:=by
 have e:put k b++r=Crc.oz (head k b.length)++(Crc.oz b++r):=by simp[put]
 have o:(Crc.oz (head k b.length)).length=8:=by rw[zq1];rfl
 rw[e,<-o,aT_]
theorem rq (a:List UInt8) (k:Nat) (b r:List UInt8) (h1:1<=k) (h2:k<=100) (E:b.length<=60000):take (a++(put k b++r)) a.length=(k,b,a.length+(put k b).length,0):=by
 have hd:(a++(put k b++r)).drop a.length=put k b++r:=aT_;have o:(a++(put k b++r)).drop (a.length+8)=Crc.oz b++r:=by rw[<-aW_,hd,oj5]
 have H:(a++(put k b++r)).length - a.length=b.length+12+r.length:=by simp[oq]
 obtain⟨z,C⟩:=sv2 k b.length (Crc.four (Crc.sum (head k b.length))++(Crc.oz b++r)) o_ E;rw[<-rq4]at z C;have I:(put k b++r).take 4=head k b.length:=by
  have:=mq1 (head k b.length) (Crc.oz b++r);rw[show put k b++r=Crc.oz (head k b.length)++(Crc.oz b++r) from by simp[put]];exact this
 have e8:(put k b++r).take 8=Crc.oz (head k b.length):=by
  have:=oq1 (head k b.length) (Crc.oz b++r);rw[show put k b++r=Crc.oz (head k b.length)++(Crc.oz b++r) from by simp[put]];exact this
 unfold take;rw[H,hd,o,z,C,I,e8,mq1,oq1,if_neg o_,if_neg (fun h=>h rfl),if_neg o_,if_neg o_,if_neg (fun h=>h rfl),oq];rw[show a.length+8+b.length+4=a.length+(b.length+12) from by omega]
theorem ov5 (a:List UInt8) (k:Nat) (b:List UInt8) (n:Nat) (h1:1<=k) (h2:k<=100) (E:b.length<=60000) (H:n < (put k b).length):take (a++(put k b).take n) a.length=(0,[],0,4):=by
 have hd:(a++(put k b).take n).drop a.length=(put k b).take n:=aT_;have I:(a++(put k b).take n).length - a.length=n:=by
  rw[e_,y_];omega
 unfold take;rw[I,hd];split
 ·rfl
 ·rename_i O
  have o:((put k b).take n).take 4=head k b.length:=by
   rw[aH_,show min 4 n=4 from by omega];have:=mq1 (head k b.length) (Crc.oz b);exact this
  have e8:((put k b).take n).take 8=Crc.oz (head k b.length):=by
   rw[aH_,show min 8 n=8 from by omega];have:=oq1 (head k b.length) (Crc.oz b);exact this
  obtain⟨z,C⟩:=sv2 k b.length (((put k b).take n).drop 4) o_ E;have J:head k b.length++((put k b).take n).drop 4=(put k b).take n:=by rw[<-o];exact ag_ 4 _
  rw[J]at z C;rw[z,C,o,e8,if_neg (fun h=>h rfl),if_neg o_,if_pos (by rw[oq]at H;omega)]
def all (k:Nat) (bs:List (List UInt8)):List UInt8:=bs.flatMap (put k)
theorem zx1 (k:Nat) (h1:1<=k) (h2:k<=100) (tail:List UInt8):∀(bs:List (List UInt8)) (f:Nat) (a:List UInt8) (ks:List Nat) (os:List (List UInt8)),(∀b∈bs,b.length<=60000)->bs.length<=f->
  splitF f (a++(all k bs++tail)) a.length ks os=splitF (f - bs.length) (a++(all k bs++tail)) (a.length+(all k bs).length) (ks++List.replicate bs.length k) (os++bs)
 |[],f,a,ks,os,_,_=>by simp[all]
 |b::bs,f,a,ks,os,z,C=>by
  obtain⟨f,rfl⟩:∃g,f=g+1:=⟨f - 1,by simp at C;omega⟩;have e:a++(all k (b::bs)++tail)=a++(put k b++(all k bs++tail)):=by simp[all]
  have E:=rq a k b (all k bs++tail) h1 h2 (z b s_);have o:a.length < (a++(put k b++(all k bs++tail))).length:=by simp[oq];omega
  have H:a++(put k b++(all k bs++tail))=(a++put k b)++(all k bs++tail):=by simp
  rw[e,splitF,if_pos o,E];simp only[if_true];rw[H,show a.length+(put k b).length=(a++put k b).length from by simp,zx1 k h1 h2 tail bs f (a++put k b) _ _ (fun x I=>z x (by simp[I])) (by simp at C;omega)];have J:(a++put k b).length+(all k bs).length=a.length+(all k (b::bs)).length:=by simp[all];omega
  rw[J];simp[cj_]
theorem gk3 (k:Nat) (h1:1<=k) (h2:k<=100) (bs:List (List UInt8)) (o:∀b∈bs,b.length<=60000):split (all k bs)=(List.replicate bs.length k,bs,(all k bs).length,0):=by
 have H:bs.length<=(all k bs).length:=by
  induction bs with
  |nil=>simp
  |cons b bs z=>
   have:=z (fun x C=>o x (by simp[C]));simp only[all,P_,e_,r_,oq]at this ⊢;omega
 have h:=zx1 k h1 h2 [] bs ((all k bs).length+1) [] [] [] o o_;simp only[D_,aM_,R_,am_]at h;unfold split;rw[h];obtain⟨g,E⟩:∃g,(all k bs).length+1 - bs.length=g+1:=⟨(all k bs).length - bs.length,o_⟩;rw[E,splitF,if_neg o_]
theorem sq4 (k:Nat) (h1:1<=k) (h2:k<=100) (bs:List (List UInt8)) (C:∀b∈bs,b.length<=60000) (b:List UInt8) (o:b.length<=60000) (n:Nat) (z:0 < n) (E:n < (put k b).length):
  split (all k bs++(put k b).take n)=(List.replicate bs.length k,bs,(all k bs).length,4):=by
 have O:bs.length<=(all k bs).length:=by
  clear E z
  induction bs with
  |nil=>simp
  |cons b bs H=>
   have:=H (fun x I=>C x (by simp[I]));simp only[all,P_,e_,r_,oq]at this ⊢;omega
 have h:=zx1 k h1 h2 ((put k b).take n) bs ((all k bs++(put k b).take n).length+1) [] [] [] C (by simp;omega);simp only[D_,R_,am_]at h;unfold split;rw[h];obtain⟨g,J⟩:∃g,(all k bs++(put k b).take n).length+1 - bs.length=g+1:=⟨(all k bs++(put k b).take n).length - bs.length,by simp;omega⟩;rw[J,splitF,if_pos (by simp;omega),ov5 (all k bs) k b n h1 h2 o E];simp
end Fr
def u64v (ns:List Nat):List Value:=ns.map fun n:Nat=>.int .u64 n
theorem aw4 (ns:List Nat) (k:Nat):(u64v ns)[k]?=(ns[k]?).map fun n:Nat=>.int .u64 n:=by simp[u64v]
theorem Row.un {B n:Nat} {w:World} {A:Option Addr} {ns:List Nat} (h:Row B w A n 1 (u64v ns)) {k:Nat} (C:k < n):∃a,∃z:k < ns.length,A=some a/\a.block < B/\w.cell? (a.add k)=some (.int .u64 ((ns[k]:Nat):Int)):=by
 obtain⟨a,v,e,E,o,H⟩:=h.at1 C;have z:k < ns.length:=by
  have:=h.len;simp[u64v]at this;omega
 rw[aw4,j_ z]at o;injection o with o;subst o;exact⟨a,z,e,E,H⟩
theorem Row.tz5 {B n:Nat} {w:World} {A:Option Addr} {ns:List Nat} (h:Row B w A n 1 (u64v ns)):ns.length=n:=by
 have:=h.len;simp[u64v]at this;omega
theorem av2 (ns:List Nat):(ns.flatMap Pn.put).length<=ns.length *10:=by
 induction ns with
 |nil=>simp
 |cons n r o=>
  have:=(Pn.jq n).2;simp only[P_,e_,r_];omega
theorem oz5 (A:Option Addr) (N c:Nat) (l:List UInt8) (L:Option Addr) (m d:Nat) (ns:List Nat) (w:World) (hN:N<=1000000) (hm:m<=1000) (hr:Row w.heap.size w A N 1 (bts l)) (hq:Row w.heap.size w L m 1 (u64v ns)) (U:∀n∈ns,n < 18446744073709551616):
  Calls Tryz.prog 228 #[.slice A N c,.slice L m d] w fun e w'=>∃A' M c',e=.returned (.slice A' M c')/\
   w'.ownsRow w.heap.size 5 1 (.slice A' M c') M (bts (l++Pn.list ns))/\M<=c'/\c'<=maxLen/\Below w.heap.size w w':=by
 have b8:=hr.xk;have a0:=hq.tz5;have b9:∀w,(convert 3 22 (.int .i64 m)).run Tryz.prog w=.ok (.int .u64 m) w:=by
  intro w;have:(m:Int) % 18446744073709551616=(m:Int):=o_
  simp[go_sem,convert,IntKind.wrap_u64,this]
 go_enter Tryz.func228,Tryz.ntmps228;go_wp2_with fail;refine(put_any A N c l m o_ w o_ hr).mono ?_;rintro e w1 ⟨A1,c1,rfl,E,H,a1,a2⟩;obtain⟨M1,C⟩:=n_ (N+(Pn.put m).length);have b6:M1<=N+10:=by have:=(Pn.jq m).2;omega
 rw[<-C]at E H ⊢;have HM:=H_ C;clear C;go_wp2
 go_loopw [5,15] (fun o i wr=>∃(k:Nat) (A':Option Addr) (M c':Nat),k<=m/\o=.slice A' M c'/\i=.int .i64 k/\wr.ownsRow w.heap.size 5 1 (.slice A' M c') M (bts (l++(Pn.put m++(ns.take k).flatMap Pn.put)))/\M<=c'/\c'<=maxLen/\Below w.heap.size w wr) (fun _ i _=>m - (intOf i).toNat)
 case atStart=>exact⟨0,A1,M1,c1,A_ _,rfl,rfl,by simpa using E,H,a1,a2⟩
 case round=>
  obtain⟨k,A',M,c',hk,rfl,rfl,z,a4,a5,Q⟩:=hrel;have I:M=N+((Pn.put m).length+((ns.take k).flatMap Pn.put).length):=by
   have h1:=z.1;rw[uq]at h1;simp only[e_]at h1;omega
  have c9:M<=N+10+10000:=by
   have h1:=av2 (ns.take k);have h2:=(Pn.jq m).2;have h3:=List.length_take_le k ns;omega
  have d0:=H_ I;clear I
  by_cases a6:k < m
  ·obtain⟨a,hl,rfl,d1,hc⟩:=(hq.below Q).un a6
   have J:ns.take (k+1)=ns.take k++[ns[k]]:=(ak_ hl).symm;have a7:=U ns[k] (w_ hl);generalize ns[k]=x at *;have HT:=H_ J;clear J;go_wp2_with fail;refine(put_any A' M c' (l++(Pn.put m++(ns.take k).flatMap Pn.put)) x a7 wr o_ (Row.own z)).mono ?_;rintro e w2 ⟨A2,c2,rfl,a8,a9,a',b0⟩;go_wp2;go_roundw
   case rel=>
    refine⟨k+1,A2,M+(Pn.put x).length,c2,o_,rfl,by go_num,?_,a9,a',az Q b0⟩;have ht:ns.take (k+1)=ns.take k++[x]:=HT;rw[ht];have:=own_base a8 Q.size;simpa [J_] using this
   case measure=>simp[intOf];omega
  ·have b1:k=m:=o_
   have O:l++(Pn.put m++(ns.take k).flatMap Pn.put)=l++Pn.list ns:=by
    rw[b1,i_ o_,Pn.list,a0]
   rw[O]at z;go_wp2;go_ret;exact⟨A',M,c',rfl,z,a4,a5,Q⟩
structure Vw where
 log:Int
 files:List (Int×Int)
 floor:Nat
 cert:Nat
 at_:Nat
 lease:Nat
structure Ed where
 drop:List Int
 add:List (Int×Int)
 log:Int
 floor:Nat
 cert:Nat
 at_:Nat
 lease:Nat
def isNum (n:Int):Bool:=decide (1<=n) &&decide (n<=1073741824)
def zy (f:Int×Int):Bool:=isNum f.2&&(decide (0<=f.1) &&decide (f.1<=3))
def nj2 (a b c d:Nat):Bool:=decide (a<=281474976710656) &&decide (b<=281474976710656) &&decide (c<=281474976710656) &&decide (d<=281474976710656)
def apart:List (Int×Int)->Bool
 |[]=>true
 |f::r=>r.all (fun g=>!(g.2==f.2)) &&apart r
def Vw.ok (v:Vw):Bool:=isNum v.log&&decide (v.files.length<=40) &&nj2 v.floor v.cert v.at_ v.lease&&v.files.all zy&&apart v.files
def Ed.may (e:Ed):Bool:=decide (e.drop.length<=40) &&decide (e.add.length<=40) &&(decide (0<=e.log) &&decide (e.log<=1073741824)) &&nj2 e.floor e.cert e.at_ e.lease&&e.drop.all isNum&&e.add.all zy
def dropAll:List Int->List (Int×Int)->Option (List (Int×Int))
 |[],fs=>some fs
 |n::r,fs=>if fs.any (fun f=>f.2==n) then dropAll r (fs.eraseP fun f=>f.2==n) else none
def orElse (a b:Nat):Nat:=if a=0 then b else a
def Vw.app (v:Vw) (e:Ed):Option Vw:=match dropAll e.drop v.files with
 |none=>none
 |some fs=>if (Vw.ok { log:=if e.log=0 then v.log else e.log,files:=fs++e.add,floor:=orElse e.floor v.floor,cert:=orElse e.cert v.cert,at_:=orElse e.at_ v.at_,lease:=orElse e.lease v.lease }) then
   some { log:=if e.log=0 then v.log else e.log,files:=fs++e.add,floor:=orElse e.floor v.floor,cert:=orElse e.cert v.cert,at_:=orElse e.at_ v.at_,lease:=orElse e.lease v.lease } else none
def Vw.run (v:Vw):List Ed->Option Vw
 |[]=>some v
 |e::r=>match v.app e with
  |none=>none
  |some w=>w.run r
def Vw.none_:Vw:=⟨0,[],0,0,0,0⟩
def Vw.whole (v:Vw):Ed:=⟨[],v.files,v.log,v.floor,v.cert,v.at_,v.lease⟩
def Ed.bytes (e:Ed):List UInt8:=Pn.list (e.drop.map Int.toNat)++(Pn.put e.add.length++(e.add.flatMap (fun f=>Pn.put f.1.toNat++Pn.put f.2.toNat)++
 (Pn.put e.log.toNat++(Pn.put e.floor++(Pn.put e.cert++(Pn.put e.at_++Pn.put e.lease))))))
def Ed.rec_ (e:Ed):List UInt8:=Fr.put 6 e.bytes
theorem Vw.dq5 (v:Vw) (e:Ed):∀es,v.run (es++[e])=(v.run es).bind fun w=>w.app e:=by
 intro es
 induction es generalizing v with
 |nil=>
  simp only[D_,Vw.run,Option.bind]
  cases v.app e<;>rfl
 |cons x r o=>
  simp only[U_,Vw.run]
  cases v.app x with
  |none=>rfl
  |some w=>exact o w
theorem yz2 {α:Type} (f:α->List UInt8) (n:Nat):∀l:List α,(∀x∈l,(f x).length<=n)->(l.flatMap f).length<=l.length *n
 |[],_=>by simp
 |x::r,h=>by
  have h1:=h x s_;have h2:=yz2 f n r (fun y o=>h y (by simp[o]));simp only[P_,e_,r_,bz_];omega
theorem Ed.aq1 (e:Ed) (h:e.may=true):e.bytes.length<=2000:=by
 simp only[Ed.may,N_,decide_eq_true_eq]at h;have h1:=yz2 Pn.put 10 (e.drop.map Int.toNat) (fun x _=>(Pn.jq x).2);have h2:=yz2 (fun f:Int×Int=>Pn.put f.1.toNat++Pn.put f.2.toNat) 20 e.add (fun f _=>by
  have:=(Pn.jq f.1.toNat).2;have:=(Pn.jq f.2.toNat).2;simp only[e_];omega)
 have z:=(Pn.jq (e.drop.map Int.toNat).length).2;have C:=(Pn.jq e.add.length).2;have a3:=(Pn.jq e.log.toNat).2;have E:=(Pn.jq e.floor).2;have H:=(Pn.jq e.cert).2;have I:=(Pn.jq e.at_).2;have J:=(Pn.jq e.lease).2;have o:(e.drop.map Int.toNat).length=e.drop.length:=by simp
 simp only[Ed.bytes,Pn.list,e_];rw[o]at h1;omega
theorem bz2 {B n:Nat} {w:World} {A:Option Addr} {l:List UInt8} (h:Row B w A n 1 (bts l)) (c:Nat):(convert 77 9 (.slice A n c)).run Tryz.prog w=.ok (.string ⟨l.toArray⟩) w:=
 iq5 _ _ 5 Tryz.underlying77 Tryz.underlying5 Tryz.underlying9 h c
theorem yj3 (A:Option Addr) (n c:Nat) (l:List UInt8) (w:World) (hn:n<=c) (E:c<=maxLen) (h4:4<=n) (H:n<=1073741824) (C:Row w w A n 1 (bts l)) (O:(Crc.oz (l.take (n - 4))==l)=false):
  Calls Tryz.prog 150 #[.slice A n c] w fun e w'=>e=.returned (.tuple #[.slice none 0 0,.int .i64 5])/\Below w w w':=by
 have Q:c<=9223372036854775807:=E;have hcut:Row w w A (n - 4) 1 (bts (l.take (n - 4))):=by
  have:=C.pre (m:=n - 4) o_
  rwa [a6_,<-jq1]at this
 have U:=bz2 C.drew c;go_enter Tryz.func150,Tryz.ntmps150;go_upto_region 4 with (fail)
 go_cut [11] (fun s wx=>s=.bool true/\Below w w wx)
 case first=>
  go_region_with (go_at_call 202;refine(cz2 A (n - 4) c (l.take (n - 4)) _ o_ E o_ hcut.drew).mono ?_;rintro e w1 ⟨A1,c1,rfl,o,_,_,z⟩;rw[Nat.sub_add_cancel h4]at o;have I:=bz2 (Row.own o) c1;have J:=bz2 (C.drew.below z) c)
  all_goals (go_wp2_with fail;go_meet;exact⟨rfl,b0_.drew.trans z⟩)
 case rest=>
  obtain⟨rfl,hb⟩:=hcut;go_wp2;go_ret2;exact⟨rfl,hb⟩
theorem aj3 (A:Option Addr) (n c:Nat) (l:List UInt8) (w:World) (hn:n<=c) (hm:c<=maxLen) (h4:4<=n) (a8:n<=1073741824) (J:Row w w A n 1 (bts l)) (C:(Crc.oz (l.take (n - 4))==l)=true):
  Calls Tryz.prog 150 #[.slice A n c] w fun e w'=>∃A' c',e=.returned (.tuple #[.slice A' (n - 4) c',.int .i64 0])/\w'.ownsRow w 5 1 (.slice A' (n - 4) c') (n - 4) (bts (l.take (n - 4)))/\n - 4<=c'/\c'<=maxLen/\Below w w w':=by
 obtain⟨i0,O,Q,U,a0⟩:=info_parts gv1;have b1:c<=9223372036854775807:=hm;have o:Row w w A (n - 4) 1 (bts (l.take (n - 4))):=by
  have:=J.pre (m:=n - 4) o_
  rwa [a6_,<-jq1]at this
 have a1:=bz2 J.drew c;have E:(!(Crc.oz (l.take (n - 4))==l))=false:=by rw[C];rfl
 go_enter Tryz.func150,Tryz.ntmps150;go_upto_region 4 with (fail)
 go_cut [11] (fun s wx=>s=.bool false/\Below w w wx)
 case first=>
  go_region_with (go_at_call 202;refine(cz2 A (n - 4) c (l.take (n - 4)) _ o_ hm o_ o.drew).mono ?_;rintro e w1 ⟨A1,c1,rfl,H,_,_,I⟩;rw[Nat.sub_add_cancel h4]at H;have a9:=bz2 (Row.own H) c1;have a':=bz2 (J.drew.below I) c)
  all_goals (go_wp2_with fail;go_meet;exact⟨rfl,b0_.drew.trans I⟩)
 case rest=>
  obtain⟨rfl,hb⟩:=hcut;clear C E a1;go_wp2_with (at_builtin;refine iq ?_);refine gz (yx rfl (.const (.slice none 0 0)) (.tmp 22) _ rfl (w:Nat) 5 i0 _ 1 1 Tryz.underlying77 O Q U a0 rfl o_ w hb hb.size rfl (w:Nat) A (n - 4) c (bts (l.take (n - 4))) rfl (o.below hb) (by1 _) (by unfold maxLen;omega) o_ ?_);intro A2 c2 w2 z a4 _ a5 a6;go_wp2;go_ret2;exact⟨A2,c2,rfl,z,a5,a6,a4⟩
@[ext] structure It where
 s:Int
 k:Int
 t:Nat
 v:Nat
 x:Int
instance :DecidableEq It:=fun a b=>decidable_of_iff (a.s=b.s/\a.k=b.k/\a.t=b.t/\a.v=b.v/\a.x=b.x) ⟨fun⟨h1,h2,h3,h4,h5⟩=>It.ext h1 h2 h3 h4 h5,fun h=>by subst h;simp⟩
namespace It
def ok (a:It):Bool:=decide (0<=a.s) &&decide (a.s<=255) &&decide (1<=a.v) &&decide (a.v<=281474976710656) &&(a.k==1&&a.t==0&&a.x==0||a.k==2&&decide (a.t<=1099511627776))
def less (a b:It):Bool:=if a.s≠b.s then decide (a.s < b.s) else if a.k≠b.k then decide (a.k < b.k) else decide (a.t < b.t)
def same (a b:It):Bool:= !less a b&&!less b a
def wins (a b:It):Bool:=decide (b.v < a.v)||a.v==b.v&&decide (b.x < a.x)
def hides (t a:It):Bool:=t.k==1&&a.k==2&&t.s==a.s&&decide (a.v<=t.v)
variable {a b c d t:It}
theorem bq1:less a b=true↔a.s < b.s\/a.s=b.s/\(a.k < b.k\/a.k=b.k/\a.t < b.t):=by
 unfold less;split<;>(try split) <;>simp<;>omega
theorem sz1:less a b=false↔¬(a.s < b.s\/a.s=b.s/\(a.k < b.k\/a.k=b.k/\a.t < b.t)):=by
 rw[<-bq1];simp
theorem same_iff:same a b=true↔a.s=b.s/\a.k=b.k/\a.t=b.t:=by
 unfold same;simp only[N_,bt_,sz1];omega
theorem cq2:wins a b=true↔b.v < a.v\/a.v=b.v/\b.x < a.x:=by simp[wins]
theorem bv1:wins a b=false↔¬(b.v < a.v\/a.v=b.v/\b.x < a.x):=by rw[<-cq2];simp
theorem kj1:hides t a=true↔t.k=1/\a.k=2/\t.s=a.s/\a.v<=t.v:=by simp[hides,and_assoc]
theorem tj1:hides t a=false↔¬(t.k=1/\a.k=2/\t.s=a.s/\a.v<=t.v):=by rw[<-kj1];simp
theorem tw1 (a:It):less a a=false:=by rw[sz1];omega
theorem gz3 (a:It):same a a=true:=by rw[same_iff];simp
theorem yw1 (h:less a b=true) (k:less b c=true):less a c=true:=by
 rw[bq1]at *;omega
theorem eq_of (h:same a b=true) (k:wins a b=false) (o:wins b a=false):a=b:=by
 rw[same_iff]at h;rw[bv1]at k o;exact It.ext o_ o_ o_ o_ o_
end It
open It
def best (L:List It) (y:It):Prop:=y∈L/\y.ok=true/\(∀z∈L,z.ok=true->same z y=true->wins z y=false)/\∀z∈L,z.ok=true->hides z y=false
def Eqv (L L':List It):Prop:=∀y,best L y↔best L' y
variable {L L' A B:List It} {x y z:It}
theorem qy5 (L:List It) (z:It) (I:z∈L) (J:z.ok=true):∃y∈L,y.ok=true/\same y z=true/\wins z y=false/\∀u∈L,u.ok=true->same u y=true->wins u y=false:=by
 induction L generalizing z with
 |nil=>cases I
 |cons a L ih=>
  by_cases hex:∃u∈L,u.ok=true/\same u z=true
  ·obtain⟨u,C,o,E⟩:=hex
   obtain⟨y,hy,a0,a6,_,H⟩:=ih u C o;have a1:same y z=true:=by rw[same_iff]at *;omega
   by_cases U:a.ok=true/\same a y=true/\wins a y=true
   ·obtain⟨U,has,O⟩:=U
    refine⟨a,p_,U,by rw[same_iff]at *;omega,?_,fun u C o E=>?_⟩
    ·rcases h_.1 I with rfl|I
     ·rw[bv1];omega
     ·have:=H z I J (by rw[same_iff]at *;omega)
      rw[cq2]at O;rw[bv1]at *;omega
    ·rcases h_.1 C with rfl|C
     ·rw[bv1];omega
     ·have:=H u C o (by rw[same_iff]at *;omega)
      rw[cq2]at O;rw[bv1]at *;omega
   ·have Q:a.ok=true->same a y=true->wins a y=false:=fun h1 h2=>by
     cases h:wins a y with
     |false=>rfl
     |true=>exact absurd ⟨h1,h2,h⟩ U
    refine⟨y,f_ _ hy,a0,a1,?_,fun u C o E=>?_⟩
    ·rcases h_.1 I with rfl|I
     ·exact Q J (by rw[same_iff]at *;omega)
     ·exact H z I J (by rw[same_iff]at *;omega)
    ·rcases h_.1 C with rfl|C
     ·exact Q o E
     ·exact H u C o E
  ·have a2:z=a:=by
    rcases h_.1 I with h|h
    ·exact h
    ·exact absurd ⟨z,h,J,gz3 z⟩ hex
   subst a2;refine⟨z,p_,J,gz3 z,by rw[bv1];omega,fun u C o E=>?_⟩
   rcases h_.1 C with rfl|C
   ·rw[bv1];omega
   ·exact absurd ⟨u,C,o,E⟩ hex
theorem cx3 (hz:z∈L) (hk:z.ok=true):(∃y,best L y/\same y z=true/\wins z y=false)\/∃t,best L t/\hides t z=true:=by
 obtain⟨y,hy,E,o,C,H⟩:=qy5 L z hz hk
 by_cases hh:∃t∈L,t.ok=true/\hides t y=true
 ·obtain⟨t,ht,I,J⟩:=hh
  obtain⟨u,hu,O,Q,U,a0⟩:=qy5 L t ht I;rw[kj1]at J;rw[same_iff]at Q o;rw[bv1]at U C;refine .inr ⟨u,⟨hu,O,a0,fun q _ _=>?_⟩,?_⟩
  ·rw[tj1];omega
  ·rw[kj1];omega
 ·refine .inl ⟨y,⟨hy,E,H,fun q hq a1=>?_⟩,o,C⟩
  cases h:hides q y with
  |false=>rfl
  |true=>exact absurd ⟨q,hq,a1,h⟩ hh
theorem Eqv.between (h1:∀y,best L y->y∈L') (h2:∀y∈L',y.ok=true->y∈L):Eqv L' L:=by
 intro y;constructor
 ·rintro⟨hy,H,U,I⟩
  refine⟨h2 y hy H,H,fun z C o hs=>?_,fun z C o=>?_⟩
  ·rcases cx3 C o with ⟨u,J,O,Q⟩|⟨t,ht,E⟩
   ·have:=U u (h1 u J) J.2.1 (by rw[same_iff]at *;omega)
    rw[bv1]at *;omega
   ·have h3:=I t (h1 t ht) ht.2.1
    rw[same_iff]at hs;rw[tj1]at h3;rw[kj1]at E;rw[bv1];omega
  ·rcases cx3 C o with ⟨u,J,O,Q⟩|⟨t,ht,E⟩
   ·have h3:=I u (h1 u J) J.2.1
    rw[same_iff]at O;rw[bv1]at Q;rw[tj1]at *;omega
   ·rw[kj1]at E
    rw[tj1];omega
 ·rintro⟨hy,H,U,I⟩
  exact⟨h1 y ⟨hy,H,U,I⟩,H,fun z C o=>U z (h2 z C o) o,fun z C o=>I z (h2 z C o) o⟩
theorem Eqv.dx6 (h:∀y,y.ok=true->(y∈L↔y∈L')):Eqv L L':=fun y=>
 ⟨fun⟨a,k,b,c⟩=>⟨(h y k).1 a,k,fun z C o=>b z ((h z o).2 C) o,fun z C o=>c z ((h z o).2 C) o⟩,
  fun⟨a,k,b,c⟩=>⟨(h y k).2 a,k,fun z C o=>b z ((h z o).1 C) o,fun z C o=>c z ((h z o).1 C) o⟩⟩
theorem best.of_sub (h:best L y) (E:y∈L') (C:∀z∈L',z∈L):best L' y:=⟨E,h.2.1,fun z o=>h.2.2.1 z (C z o),fun z o=>h.2.2.2 z (C z o)⟩
theorem iy5 {p:It->Prop} (C:∀y,p y↔best L y) (y:It) (l:List It) (E:∀y,y∈l↔p y):best (A++l) y↔best (A++L) y:=by
 refine Eqv.between (L:=A++L) (fun y o=>?_) (fun y o _=>?_) y
 ·rcases q_.1 o.1 with h|h
  ·exact x_ _ h
  ·exact k_ _ ((E y).2 ((C y).2 (o.of_sub h (fun z H=>k_ _ H))))
 ·rcases q_.1 o with h|h
  ·exact x_ _ h
  ·exact k_ _ ((C y).1 ((E y).1 h)).1
def yj (l:List It):Prop:=l.Pairwise (fun a b=>less a b=true)
instance (l:List It):Decidable (yj l):=by unfold yj;infer_instance
structure Stt (l:List It):Prop where
 rises:yj l
 ok:∀y∈l,y.ok=true
 bare:∀a∈l,∀b∈l,hides a b=false
theorem nv1 {l:List It} (h:yj l) {a b:It} (E:a∈l) (H:b∈l) (I:same a b=true):a=b:=by
 induction l with
 |nil=>cases E
 |cons c l J=>
  obtain⟨h1,h2⟩:=ao_.1 h;rw[same_iff]at I
  rcases h_.1 E with o|o<;>rcases h_.1 H with C|C
  ·rw[o,C]
  ·have:=h1 b C;rw[<-o,bq1]at this;omega
  ·have:=h1 a o;rw[<-C,bq1]at this;omega
  ·exact J h2 o C
theorem Stt.best {l:List It} (h:Stt l) (y:It):y∈l↔best l y:=
 ⟨fun o=>⟨o,h.ok y o,fun z C _ E=>by rw[nv1 h.rises C o E,bv1];omega,fun z C _=>h.bare z C y o⟩,fun o=>o.1⟩
theorem yw3:∀{l C:List It},yj l->yj C->(∀y,y∈l↔y∈C)->l=C
 |[],[],_,_,_=>rfl
 |[],b::r,_,_,h=>absurd ((h b).2 p_) s_
 |a::r,[],_,_,h=>absurd ((h a).1 p_) s_
 |a::r,b::q,h1,h2,h=>by
  obtain⟨H,I⟩:=ao_.1 h1;obtain⟨b1,b2⟩:=ao_.1 h2;have E:a=b:=by
   rcases h_.1 ((h a).1 p_) with e|e
   ·exact e
   ·rcases h_.1 ((h b).2 p_) with f|f
    ·exact f.symm
    ·have h3:=b1 a e
     have h4:=H b f;rw[bq1]at h3 h4;omega
  subst E
  congr 1
  refine yw3 I b2 fun y=>⟨fun o=>?_,fun o=>?_⟩
  ·rcases h_.1 ((h y).1 (f_ _ o)) with e|e
   ·subst e
    have:=H y o;rw[tw1]at this
    cases this
   ·exact e
  ·rcases h_.1 ((h y).2 (f_ _ o)) with e|e
   ·subst e
    have:=b1 y o;rw[tw1]at this
    cases this
   ·exact e
theorem Stt.nil:Stt []:=⟨bi_,s_,s_⟩
def pos (l:List It) (x:It):Nat:=(l.takeWhile fun a=>less a x).length
def put (l:List It) (x:It):List It:=l.filter (fun y=>less y x)++x::l.filter (fun y=>less x y)
def hidden (l:List It) (x:It):Bool:=l.any fun t=>hides t x
def vx1 (l:List It) (x:It):Bool:=l.any fun y=>same y x&&!wins x y
def add (l:List It) (x:It):List It:=if (!x.ok||hidden l x||vx1 l x)=true then l else (put l x).filter fun y=>!hides x y
def joins (a b:List It):List It:=b.foldl add a
theorem dy3 (l:List It) (x:It):pos l x<=l.length:=by
 unfold pos;exact(List.takeWhile_prefix _).length_le
theorem dy2 {l:List It} (h:yj l) (x:It):l.take (pos l x)=l.filter (fun y=>less y x)/\l.drop (pos l x)=l.filter (fun y=>!less y x):=by
 induction l with
 |nil=>simp[pos]
 |cons a r C=>
  obtain⟨H,I⟩:=ao_.1 h;have C:=C I;unfold pos at C ⊢
  cases E:less a x with
  |true=>simp only[List.takeWhile_cons,E,if_true,r_,ch_,bR_,bv_,C,bW_,ai_,if_false,and_self]
  |false=>
   have h1:∀y∈r,less y x=false:=fun y o=>by
    have:=H y o;rw[bq1]at this;rw[sz1]at *;omega
   have h2:r.filter (fun y=>less y x)=[]:=b2_.2 (fun y o=>by simp[h1 y o]);have h3:r.filter (fun y=>!less y x)=r:=a8_.2 (fun y o=>by simp[h1 y o]);simp[List.takeWhile_cons,E,h2,h3]
theorem qx {l:List It}:y∈put l x↔y=x\/y∈l/\same y x=false:=by
 unfold put;simp only[q_,ac_,h_];have:same y x=false↔less y x=true\/less x y=true:=by
  unfold same
  cases less y x<;>cases less x y<;>simp
 rw[this];constructor
 ·rintro(h|h|h)
  ·exact .inr ⟨h.1,.inl h.2⟩
  ·exact .inl h
  ·exact .inr ⟨h.1,.inr h.2⟩
 ·rintro(h|⟨h,k|k⟩)
  ·exact .inr (.inl h)
  ·exact .inl ⟨h,k⟩
  ·exact .inr (.inr ⟨h,k⟩)
theorem xq1 {l:List It} (h:yj l):yj (put l x):=by
 unfold put yj;refine bs_.2 ⟨h.filter _,ao_.2 ⟨fun y C=>(ac_.1 C).2,h.filter _⟩,fun a E b o=>?_⟩;have h1:=(ac_.1 E).2
 rcases h_.1 o with rfl|o
 ·exact h1
 ·exact yw1 h1 (ac_.1 o).2
theorem mq4 {l:List It} (h:yj l) (O:∀y,l[pos l x]?=some y->same y x=false):put l x=l.take (pos l x)++x::l.drop (pos l x):=by
 obtain⟨h1,h2⟩:=dy2 h x;unfold put;rw[h1]
 congr 2
 have hd:∀y∈l.drop (pos l x),less x y=true:=fun y o=>by
  have J:=h.sublist (List.drop_sublist (pos l x) l);have Q:less y x=false:=by rw[h2]at o;simpa using (ac_.1 o).2
  cases C:l.drop (pos l x) with
  |nil=>rw[C]at o;cases o
  |cons c r=>
   have U:l[pos l x]?=some c:=by
    have:=aA_ (xs:=l) (i:=pos l x) (j:=0);rw[C]at this;simpa using this.symm
   have E:=O c U;have I:less c x=false:=by
    have:c∈l.drop (pos l x):=by rw[C];simp
    rw[h2]at this;simpa using (ac_.1 this).2
   have H:less x c=true:=by
    unfold same at E;rw[I]at E;simpa using E
   rw[C]at o J;obtain⟨p1,_⟩:=ao_.1 J
   rcases h_.1 o with rfl|o
   ·exact H
   ·exact yw1 H (p1 y o)
 have e:l.filter (fun y=>less x y)=(l.drop (pos l x)).filter (fun y=>less x y):=by
  conv=>lhs;rw[<-ag_ (pos l x) l,bZ_]
  rw[b2_.2,D_];intro y o;rw[h1]at o;have:=(ac_.1 o).2;rw[bq1]at this;simp only[Bool.not_eq_true,sz1];omega
 rw[e];exact a8_.2 hd
theorem sz5 {l:List It} (h:yj l) {c:It} (J:l[pos l x]?=some c) (O:same c x=true):put l x=l.set (pos l x) x:=by
 have H:pos l x < l.length:=(C_.1 J).1;have o:=(C_.1 J).2;refine yw3 (xq1 h) ?_ (fun y=>?_)
 ·unfold yj
  rw[aZ_,if_pos H];have h0:yj (l.take (pos l x)++c::l.drop (pos l x+1)):=by
   rw[<-o,List.getElem_cons_drop,ag_];exact h
  obtain⟨b1,b2,Q⟩:=bs_.1 h0;obtain⟨b4,b5⟩:=ao_.1 b2;rw[same_iff]at O;refine bs_.2 ⟨b1,ao_.2 ⟨fun y E=>?_,b5⟩,fun a U b I=>?_⟩
  ·have:=b4 y E
   rw[bq1]at *;omega
  ·rcases h_.1 I with rfl|I
   ·have:=Q a U c s_
    rw[bq1]at *;omega
   ·exact Q a U b (by simp[I])
 ·rw[qx]
  constructor
  ·rintro(rfl|⟨E,hn⟩)
   ·exact List.mem_set H _
   ·obtain⟨i,hi,rfl⟩:=aI_ E
    have C:pos l x≠i:=fun e=>by subst e;rw[o,O]at hn;cases hn
    exact bJ_.2 ⟨i,by simpa using hi,by rw[bO_,if_neg C]⟩
  ·intro E
   obtain⟨i,hi,rfl⟩:=aI_ E;simp only[av_]at hi;rw[bO_];split
   ·exact .inl rfl
   ·rename_i C
    refine .inr ⟨w_ _,?_⟩
    cases hq:same l[i] x with
    |false=>rfl
    |true=>
     exfalso;have:l[i]=c:=nv1 h (w_ _) (by rw[<-o];exact w_ _) (by rw[same_iff]at *;omega);rw[<-o]at this;have h3:=ay_.1 h
     rcases co_ C with h4|h4
     ·have:=h3 _ _ H hi h4
      simp_all [tw1]
     ·have:=h3 _ _ hi H h4
      simp_all [tw1]
theorem rw5 {l:List It} (h:Stt l):Stt (add l x)/\∀y,y∈add l x↔best (x::l) y:=by
 unfold add;split
 ·rename_i C
  refine⟨h,fun y=>(h.best y).trans (Eqv.between (L:=x::l) (L':=l) (fun y E=>?_) (fun y E _=>f_ _ E) y)⟩
  rcases h_.1 E.1 with rfl|h1
  ·obtain⟨_,I,Q,O⟩:=E
   simp only[bU_,bt_,hidden,vx1,aF_,N_]at C
   rcases C with (C|⟨t,ht,C⟩)|⟨z,o,H,C⟩
   ·rw[C]at I;cases I
   ·rw[O t (f_ _ ht) (h.ok t ht)]at C;cases C
   ·have h2:=Q z (f_ _ o) (h.ok z o) H
    rw[<-It.eq_of H h2 C];exact o
  ·exact h1
 ·rename_i C
  have C:(!x.ok||hidden l x||vx1 l x)=false:=by simpa using C
  simp only[cc_,Bool.not_eq_false',hidden,vx1,ab_,N_,not_and,bt_,Bool.not_eq_true,Bool.not_eq_false]at C;obtain⟨⟨I,O⟩,hb⟩:=C;have U:hides x x=false:=by rw[tj1];omega
  refine⟨⟨(xq1 h.rises).filter _,fun y E=>?_,fun a ha b a0=>?_⟩,fun y=>?_⟩
  ·rcases qx.1 (ac_.1 E).1 with rfl|⟨h1,_⟩
   ·exact I
   ·exact h.ok y h1
  ·obtain⟨a1,a'⟩:=ac_.1 ha
   obtain⟨a2,a4⟩:=ac_.1 a0
   rcases qx.1 a1 with rfl|⟨h1,_⟩
   ·simpa using a4
   ·rcases qx.1 a2 with rfl|⟨h2,_⟩
    ·exact O a h1
    ·exact h.bare a h1 b h2
  ·rw[ac_,qx]
   constructor
   ·rintro⟨rfl|⟨E,hn⟩,J⟩
    ·refine⟨p_,I,fun z o _ H=>?_,fun z o _=>?_⟩
     ·rcases h_.1 o with rfl|o
      ·rw[bv1];omega
      ·have:=hb z o H
       rw[cq2]at this;rw[bv1];omega
     ·rcases h_.1 o with rfl|o
      ·exact U
      ·exact O z o
    ·have J:hides x y=false:=by simpa using J
     refine⟨f_ _ E,h.ok y E,fun z o _ H=>?_,fun z o _=>?_⟩
     ·rcases h_.1 o with rfl|o
      ·rw[same_iff]at H
       exfalso;have:same y z=true:=by rw[same_iff];omega
       rw[this]at hn;cases hn
      ·rw[nv1 h.rises o E H,bv1];omega
     ·rcases h_.1 o with rfl|o
      ·exact J
      ·exact h.bare z o y E
   ·rintro⟨E,b0,Q,a5⟩
    have J:=a5 x p_ I;refine⟨?_,by simp[J]⟩
    rcases h_.1 E with h1|h1
    ·exact .inl h1
    ·refine .inr ⟨h1,?_⟩
     cases H:same y x with
     |false=>rfl
     |true=>
      have h2:=hb y h1 H;have h3:=Q x p_ I (by rw[same_iff]at *;omega);rw[h2]at h3;cases h3
theorem iy2 (b:List It):∀{a:List It},Stt a->Stt (joins a b)/\∀y,y∈joins a b↔best (b++a) y:=by
 induction b with
 |nil=>exact fun h=>⟨h,h.best⟩
 |cons x b o=>
  intro a h;obtain⟨h1,h2⟩:=rw5 (x:=x) h;obtain⟨h3,h4⟩:=o h1;refine⟨h3,fun y=>(h4 y).trans ((iy5 (p:=fun y=>y∈add a x) (L:=x::a) h2 y (add a x) (fun y=>Iff.rfl)).trans ?_)⟩;exact Eqv.dx6 (fun y _=>by simp[or_left_comm]) y
def ofs (l:List It):List It:=joins [] l
theorem kv3 (a b c:List It):joins a (b++c)=joins (joins a b) c:=by simp[joins]
theorem jq (l:List It) (x:It):(put l x).length<=l.length+1:=by
 have h1:(l.filter (fun y=>less y x)).length+(l.filter (fun y=>less x y)).length<=l.length:=by
  induction l with
  |nil=>simp
  |cons a r o=>
   simp only[bv_,r_]
   cases h1:less a x<;>cases h2:less x a
   ·simp only[ai_,if_false];omega
   ·simp only[ai_,if_false,if_true,r_];omega
   ·simp only[ai_,if_false,if_true,r_];omega
   ·rw[bq1]at h1 h2;omega
 unfold put;simp only[e_,r_];omega
theorem tq5 (l:List It) (x:It):(add l x).length<=l.length+1:=by
 unfold add;split
 ·omega
 ·exact g_ (aw_ _ _) (jq l x)
theorem lq3 (b:List It):∀a:List It,(joins a b).length<=a.length+b.length:=by
 induction b with
 |nil=>intro a;simp[joins]
 |cons x b o=>
  intro a;have h1:=o (add a x);have h2:=tq5 a x;simp only[joins,aX_,r_]at *;omega
end
theorem xw {P:Program} {w:World} {ops:Array Oper} {rest:List Oper} {o:Oper} {a:Act} {Q:Exit->Act->World->Prop} (a1:o.guard=none) (s x:Operand) (t:TypeId)
  (ho:o.op=.call { callee:=.builtin .append,args:=#[s,x],argTypes:=#[t,t] })
  (base:Nat) (e:TypeId) (i:TypeInfo) (z:Value) (size bytes:Nat) (ht:P.underlying t=some (.slice e)) (hi:P.info? e=some i) (hz:i.zero=some z)
  (I:i.size=size) (a2:i.bytes=bytes) (a4:z.cells.size=size) (J:0 < size) (w0:World) (hb:Below base w0 w) (C:base<=(w:Nat)) (v:Value) (n:Nat) (xs:List Value) (hs:a.eval s=v) (H:w.ownsRow base e size v n xs)
  (B:Nat) (A:Option Addr) (m c:Nat) (hm:0 < m) (news:List Value) (hx:a.eval x=.slice A m c) (hr:Row B w A m size news) (h1:∀u∈news,u.oneCell'=true)
  (N:Nat) (X:List Value) (hN:n+m=N) (hX:xs++news=X) (a5:N<=maxLen) (E:N *bytes<=140737488355328)
  (h:∀A' c' w',w'.ownsRow base e size (.slice A' N c') N X->Below base w0 w'->w.grownBy w' v.ownBlock->N<=c'->c'<=maxLen->((Value.slice A' N c').ownBlock=v.ownBlock\/(Value.slice A' N c').ownBlock=some (w:Nat))->wpList P ops Q rest (a.put o.dst (.slice A' N c')) w'):wpList P ops Q (o::rest) a w:=by
 subst hN;subst hX;have O:0 < news.length:=by
  rw[hr.len];exact cK_ hm J
 obtain⟨a',rfl,_⟩:=hr.some_ O;obtain⟨v',w',U,h3,h4,_,h6⟩:=run_append_own_at (P:=P) (ty:=o.type) w base t e i z size bytes ht hi hz I a2 a4 J v n xs H a' m c news hr.len hr.cells h1 a5 E C;obtain⟨A',c',rfl,h5,h7,_⟩:=ay h3;refine wpList_plain a1 fun _ hK=>?_;unfold Oper.wp execOp;simp only[ho,resolve,invoke,builtin,Sem.run_bind,Sem.run_pure,Result.andThen_ok,bN_,al_,bc_,hs,hx,U];exact hK _ _ (h A' c' w' h3 (gy2 hb H h4 C) h4 h5 h7 h6)
theorem Row.grow {B n size:Nat} {w w':World} {A:Option Addr} {xs:List Value} {r:Option Nat} (h:Row B w A n size xs) (z:w.grownBy w' r) (o:∀a,A=some a->some a.block≠r):Row B w' A n size xs:=
 ⟨h.len,fun j hj=>let ⟨a,e,b,c⟩:=h.cell j hj;⟨a,e,b,z.cell c (by rw[add_block];exact o a e)⟩⟩
namespace Pn
theorem rw3 (ns:List Nat) (a r:List UInt8) (out:List Nat) (o:∀n∈ns,n < 2 ^ 64):unlistF ns.length a.length (a++(ns.flatMap put++r)) out=(out++ns,a.length+(ns.flatMap put).length,0):=by
 induction ns generalizing a out with
 |nil=>simp[unlistF]
 |cons n ns z=>
  have e:a++((n::ns).flatMap put++r)=a++(put n++(ns.flatMap put++r)):=by simp
  rw[e,r_,unlistF,aT_,rq n _ (o n s_)];simp only;have C:a++(put n++(ns.flatMap put++r))=(a++put n)++(ns.flatMap put++r):=by simp
  rw[C,show a.length+(put n).length=(a++put n).length by simp,z (a++put n) (out++[n]) (fun x E=>o x (by simp[E]))];simp[cN_]
theorem qv3 (ns:List Nat) (r:List UInt8) (most:Nat) (z:ns.length<=most) (C:most < 2 ^ 64) (o:∀n∈ns,n < 2 ^ 64):vw (list ns++r) most=(ns,(list ns).length,0):=by
 have e:list ns++r=put ns.length++(ns.flatMap put++r):=by simp[list]
 unfold vw;rw[e,rq _ _ o_];simp only;rw[if_neg o_,rw3 ns (put ns.length) r [] o];simp[list]
theorem ly2:∀(k at_:Nat) (l:List UInt8) (out:List Nat),(unlistF k at_ l out).2.2=0->(unlistF k at_ l out).1.length=out.length+k
 |0,at_,l,out,_=>by simp[unlistF]
 |k+1,at_,l,out,h=>by
  rw[unlistF]at h ⊢;split at h
  ·rename_i x s z
   rw[ly2 k _ l _ h];simp;omega
  ·rename_i x s e o z
   exact absurd h (o ·)
end Pn
abbrev Rd:=List UInt8×Bool
namespace Rd
def take (most:Nat) (r:Rd):Nat×Rd:=
 if r.2=true/\(Pn.take r.1).2.2=0/\(Pn.take r.1).1<=most then ((Pn.take r.1).1,(r.1.drop (Pn.take r.1).2.1,true)) else (0,(r.1,false))
def files (r:Rd):Nat->List (Int×Int)×Rd
 |0=>([],r)
 |k+1=>((files r k).1++[(((take 3 (files r k).2).1:Int),((take 1073741824 (take 3 (files r k).2).2).1:Int))],(take 1073741824 (take 3 (files r k).2).2).2)
theorem rq {n most:Nat} (r:List UInt8) (h:n<=most) (o:most < 2 ^ 64):take most (Pn.put n++r,true)=(n,(r,true)):=by
 unfold take;simp only[Pn.rq n r o_];rw[if_pos (by simpa using h),aT_]
theorem pz1 (most:Nat) (r:Rd):(take most r).1<=most:=by
 unfold take;split
 ·exact(by assumption:_/\_/\_).2.2
 ·exact A_ _
theorem ek3 (fs:List (Int×Int)) (r:List UInt8) (h:fs.all zy=true):∀k,k<=fs.length->files ((fs.flatMap fun f=>Pn.put f.1.toNat++Pn.put f.2.toNat)++r,true) k=(fs.take k,((fs.drop k).flatMap (fun f=>Pn.put f.1.toNat++Pn.put f.2.toNat)++r,true))
 |0,_=>by simp[files]
 |k+1,z=>by
  have o:zy fs[k]=true:=Y_.1 h _ (w_ o_);rw[v_ o_];have hd:fs.drop k=fs[k]::fs.drop (k+1):=aO_ o_;generalize fs[k]=f at *;simp only[zy,isNum,N_,decide_eq_true_eq]at o;rw[files,ek3 fs r h k o_,hd,P_,J_,J_];simp only;rw[rq _ o_ o_];simp only;rw[rq _ o_ o_];simp only;rw[show ((f.1.toNat:Nat):Int)=f.1 by omega,show ((f.2.toNat:Nat):Int)=f.2 by omega]
end Rd
def Ed.zero:Ed:=⟨[],[],0,0,0,0,0⟩
def Rd.tail (drop:List Int) (fs:List (Int×Int)) (r0:Rd):Ed×Rd:=
 (⟨drop,fs,((Rd.take 1073741824 r0).1:Int),(Rd.take 281474976710656 (Rd.take 1073741824 r0).2).1,(Rd.take 281474976710656 (Rd.take 281474976710656 (Rd.take 1073741824 r0).2).2).1,
  (Rd.take 281474976710656 (Rd.take 281474976710656 (Rd.take 281474976710656 (Rd.take 1073741824 r0).2).2).2).1,
  (Rd.take 281474976710656 (Rd.take 281474976710656 (Rd.take 281474976710656 (Rd.take 281474976710656 (Rd.take 1073741824 r0).2).2).2).2).1⟩,
  (Rd.take 281474976710656 (Rd.take 281474976710656 (Rd.take 281474976710656 (Rd.take 281474976710656 (Rd.take 1073741824 r0).2).2).2).2).2)
def Ed.scan (b:List UInt8):Ed×Rd:=
 Rd.tail ((Pn.vw b 40).1.map fun n=>((min n 1073741825:Nat):Int))
  (Rd.files (Rd.take 40 (b.drop (Pn.vw b 40).2.1,true)).2 (Rd.take 40 (b.drop (Pn.vw b 40).2.1,true)).1).1
  (Rd.files (Rd.take 40 (b.drop (Pn.vw b 40).2.1,true)).2 (Rd.take 40 (b.drop (Pn.vw b 40).2.1,true)).1).2
def Ed.good (p:Ed×Rd):Bool:=p.2.2&&p.2.1.isEmpty&&p.1.may
def Ed.read (b:List UInt8):Ed×Nat:=
 if (Pn.vw b 40).2.2≠0 then (Ed.zero,3) else if Ed.good (Ed.scan b)=true then ((Ed.scan b).1,0) else (Ed.zero,3)
theorem Ed.jq5 {b:List UInt8} (h:(Ed.read b).2=0):(Ed.read b).1.may=true:=by
 unfold Ed.read at h ⊢;split
 ·rw[if_pos (by assumption)]at h;cases h
 ·rw[if_neg (by assumption)]at h
  split
  ·have o:=(by assumption:Ed.good (Ed.scan b)=true)
   simp only[Ed.good,N_]at o;exact o.2
  ·rw[if_neg (by assumption)]at h;cases h
theorem Ed.rk1 (e:Ed) (h:e.may=true):Ed.read e.bytes=(e,0):=by
 obtain⟨drop,add,log,f,c,a,l⟩:=e;have E:=h;simp only[Ed.may,nj2,N_,decide_eq_true_eq]at E;obtain⟨⟨⟨⟨⟨h1,h2⟩,h3⟩,h4⟩,h5⟩,Q⟩:=E;have hd:∀n∈drop,1<=n/\n<=1073741824:=fun n o=>by
  have:=Y_.1 h5 n o;simpa [isNum] using this
 obtain⟨r,H⟩:=n_ (Pn.put add.length++(add.flatMap (fun f=>Pn.put f.1.toNat++Pn.put f.2.toNat)++(Pn.put log.toNat++(Pn.put f++(Pn.put c++(Pn.put a++Pn.put l))))));have I:Ed.bytes ⟨drop,add,log,f,c,a,l⟩=Pn.list (drop.map Int.toNat)++r:=by rw[H];rfl
 have J:=Pn.qv3 (drop.map Int.toNat) r 40 (by simpa using h1) o_ (fun n o=>by
  obtain⟨x,z,rfl⟩:=aP_.1 o;have:=hd x z;omega)
 have C:(drop.map Int.toNat).map (fun n=>((min n 1073741825:Nat):Int))=drop:=by
  rw[cm_];refine(List.map_congr_left fun x z=>?_).trans (List.map_id _);have:=hd x z;simp;omega
 have U:Rd.take 40 (r,true)=(add.length,(add.flatMap (fun f=>Pn.put f.1.toNat++Pn.put f.2.toNat)++(Pn.put log.toNat++(Pn.put f++(Pn.put c++(Pn.put a++Pn.put l)))),true)):=by
  rw[H,Rd.rq _ h2 o_]
 have O:=Rd.ek3 add (Pn.put log.toNat++(Pn.put f++(Pn.put c++(Pn.put a++Pn.put l)))) Q add.length l_;rw[cb_,ca_,cA_,D_]at O;have hs:Ed.scan (Ed.bytes ⟨drop,add,log,f,c,a,l⟩)=(⟨drop,add,log,f,c,a,l⟩,([],true)):=by
  unfold Ed.scan;rw[I,J];simp only;rw[aT_,U];simp only;rw[O,C];unfold Rd.tail;simp only;rw[Rd.rq _ o_ o_];simp only;rw[Rd.rq _ o_ o_];simp only;rw[Rd.rq _ o_ o_];simp only;rw[Rd.rq _ o_ o_];simp only;rw[show Pn.put l=Pn.put l++[] by simp,Rd.rq _ o_ o_];simp only;rw[show ((log.toNat:Nat):Int)=log by omega]
 unfold Ed.read;rw[hs,I,J];simp only[ne_eq,not_true_eq_false,if_false];rw[if_pos (by simp[Ed.good,h])]
def Vw.step (o:Option Vw) (p:Nat×List UInt8):Option Vw:=match o with
 |none=>none
 |some v=>if (Ed.read p.2).2=0/\p.1=6 then v.app (Ed.read p.2).1 else none
def Vw.steps (l:List (Nat×List UInt8)):Option Vw:=l.foldl Vw.step (some Vw.none_)
theorem Vw.fv4 {l:List (Nat×List UInt8)} {k:Nat} (h:k < l.length):Vw.steps (l.take (k+1))=Vw.step (Vw.steps (l.take k)) l[k]:=by
 unfold Vw.steps;rw[v_ h,aS_];rfl
theorem Vw.nw2:∀l:List (Nat×List UInt8),l.foldl Vw.step none=none
 |[]=>rfl
 |_::r=>Vw.nw2 r
theorem Vw.jq4 {l:List (Nat×List UInt8)} {k:Nat} (h:Vw.steps (l.take k)=none):Vw.steps l=none:=by
 unfold Vw.steps at *;rw[<-ag_ k l,aS_,h];exact Vw.nw2 _
def Vw.views (t:List UInt8):Option (Vw×Nat×Nat):=
 if ((Fr.split t).2.2.2≠0/\(Fr.split t).2.2.2≠4)\/(Fr.split t).2.1=[] then none
 else (Vw.steps ((Fr.split t).1.zip (Fr.split t).2.1)).map fun v=>(v,(Fr.split t).2.1.length,(Fr.split t).2.2.1)
theorem Vw.av6 {v o:Vw} {e:Ed} (h:v.app e=some o):o.ok=true:=by
 unfold Vw.app at h
 cases hd:dropAll e.drop v.files with
 |none=>rw[hd]at h;cases h
 |some fs=>
  rw[hd]at h;simp only at h;generalize ({ log:=if e.log=0 then v.log else e.log,files:=fs++e.add,floor:=orElse e.floor v.floor,cert:=orElse e.cert v.cert,at_:=orElse e.at_ v.at_,lease:=orElse e.lease v.lease }:Vw)=x at h
  by_cases z:x.ok=true
  ·rw[if_pos z]at h
   injection h with h
   rwa [<-h]
  ·rw[if_neg z]at h
   cases h
theorem Vw.bq5 (es:List Ed) (h:∀e∈es,e.may=true):Vw.steps (es.map fun e=>(6,e.bytes))=Vw.none_.run es:=by
 have key:∀(es:List Ed) (o:Option Vw),(∀e∈es,e.may=true)->(es.map fun e=>((6:Nat),e.bytes)).foldl Vw.step o=o.bind fun v=>v.run es:=by
  intro es
  induction es with
  |nil=>intro o _;cases o<;>rfl
  |cons e r z=>
   intro o h;simp only[al_,aX_];rw[z _ (fun x C=>h x (by simp[C]))]
   cases o with
   |none=>rfl
   |some v=>
    unfold Vw.step;simp only[Ed.rk1 e (h e s_),true_and,if_true,Option.bind,Vw.run]
    cases v.app e<;>rfl
 exact key es (some Vw.none_) h
theorem pk3 (es:List Ed):(List.replicate es.length 6).zip (es.map Ed.bytes)=es.map fun e=>((6:Nat),e.bytes):=by
 induction es with
 |nil=>rfl
 |cons e r o=>simp[cj_,o]
def Ed.text (es:List Ed):List UInt8:=Fr.all 6 (es.map Ed.bytes)
theorem Ed.fx2 (es:List Ed) (e:Ed):Ed.text (es++[e])=Ed.text es++e.rec_:=by simp[Ed.text,Fr.all,Ed.rec_]
theorem Vw.av5 (es:List Ed) (h:∀e∈es,e.may=true) (E:es≠[]) (e:Ed) (H:e.may=true) (n:Nat) (I:n < e.rec_.length):
  Vw.views (Ed.text es++e.rec_.take n)=(Vw.none_.run es).map fun v=>(v,es.length,(Ed.text es).length):=by
 have o:∀b∈es.map Ed.bytes,b.length<=60000:=fun b o=>by
  obtain⟨x,J,rfl⟩:=aP_.1 o;have:=Ed.aq1 x (h x J);omega
 have z:∃er,(er=0\/er=4)/\Fr.split (Ed.text es++e.rec_.take n)=(List.replicate es.length 6,es.map Ed.bytes,(Ed.text es).length,er):=by
  rcases an_ n with rfl|C
  ·refine⟨0,.inl rfl,?_⟩
   have:=Fr.gk3 6 (by decide) (by decide) (es.map Ed.bytes) o;simpa [Ed.text] using this
  ·refine⟨4,.inr rfl,?_⟩
   have Q:=Ed.aq1 e H;have:=Fr.sq4 6 (by decide) (by decide) (es.map Ed.bytes) o e.bytes o_ n C I;simpa [Ed.text,Ed.rec_] using this
 obtain⟨er,O,z⟩:=z;unfold Vw.views;rw[z];simp only;rw[if_neg (by
  simp only[not_or,not_and,List.map_eq_nil_iff];exact⟨fun a b=>o_,E⟩),pk3,Vw.bq5 es h]
 simp
theorem Vw.ik4 (es:List Ed) (h:∀e∈es,e.may=true) (o:es≠[]):
  Vw.views (Ed.text es)=(Vw.none_.run es).map fun v=>(v,es.length,(Ed.text es).length):=by
 have h1:=Vw.av5 es h o Ed.zero (by decide) 0 (by rw[Ed.rec_,Fr.oq];omega);simpa using h1
section
open It
def wput (l:List It) (x:It):List It:=if vx1 l x=true then l else put l x
variable {L:List It} {x y:It}
def clean (l:List It):List It:=l.filter fun y=>!hidden l y
def rx1 (l:List It) (v:Nat):List It:=l.filter fun y=>!(y.k==1&&decide (y.v<=v))
end
section
open It
def sgn (x:Int):Nat:=if 0<=x then (2 *x).toNat else (-2 *x - 1).toNat
def rv1 (n:Nat):Int:=if n % 2=0 then (n / 2:Nat) else -((n / 2:Nat):Int) - 1
theorem yk4 (x:Int):rv1 (sgn x)=x:=by
 unfold rv1 sgn;split<;>split<;>omega
theorem qw5 {x:Int} (h1:-9223372036854775808<=x) (h2:x < 9223372036854775808):sgn x < 2 ^ 64:=by
 unfold sgn;split<;>omega
namespace It
def fit (a:It):Prop:=-9223372036854775808<=a.x/\a.x < 9223372036854775808
def one (a:It):List UInt8:=UInt8.ofNat a.s.toNat::UInt8.ofNat a.k.toNat::(Pn.put a.t++(Pn.put a.v++Pn.put (sgn a.x)))
def bytes (l:List It):List UInt8:=Pn.put l.length++l.flatMap one
def take1 (b:List UInt8):It×List UInt8×Nat:=
 if b.length < 2 then (⟨0,0,0,0,0⟩,[],4) else
 match Pn.take (b.drop 2) with
 |(t,n1,0)=>match Pn.take ((b.drop 2).drop n1) with
  |(v,n2,0)=>match Pn.take (((b.drop 2).drop n1).drop n2) with
   |(x,n3,0)=>(⟨Fr.u b 0,Fr.u b 1,t,v,rv1 x⟩,((b.drop 2).drop n1|>.drop n2).drop n3,0)
   |(_,_,e)=>(⟨0,0,0,0,0⟩,[],e)
  |(_,_,e)=>(⟨0,0,0,0,0⟩,[],e)
 |(_,_,e)=>(⟨0,0,0,0,0⟩,[],e)
def takes:Nat->List UInt8->List It->List It×List UInt8×Nat
 |0,b,out=>(out,b,0)
 |n+1,b,out=>match take1 b with
  |(x,r,0)=>takes n r (out++[x])
  |(_,_,e)=>([],[],e)
def read (b:List UInt8):List It×Nat:=match Pn.take b with
 |(n,size,0)=>if 2000 < n then ([],2) else match takes n (b.drop size) [] with
  |(out,r,0)=>if r=[]/\out.all ok=true then (out,0) else ([],3)
  |(_,_,e)=>([],e)
 |(_,_,e)=>([],e)
theorem zv3 {a:It}:a.ok=true↔0<=a.s/\a.s<=255/\1<=a.v/\a.v<=281474976710656/\(a.k=1/\a.t=0/\a.x=0\/a.k=2/\a.t<=1099511627776):=by
 simp[ok,and_assoc]
theorem zy4 {a:It} (h:a.ok=true) (o:a.fit) (r:List UInt8):take1 (a.one++r)=(a,r,0):=by
 rw[zv3]at h;have z:(a.one++r).drop 2=Pn.put a.t++(Pn.put a.v++(Pn.put (sgn a.x)++r)):=by simp[one]
 have C:¬(a.one++r).length < 2:=by simp[one]
 unfold take1;rw[if_neg C,z,Pn.rq _ _ o_];simp only[aT_];rw[Pn.rq _ _ o_];simp only[aT_];rw[Pn.rq _ _ (qw5 o.1 o.2)];simp only[aT_];have E:((Fr.u (a.one++r) 0:Nat):Int)=a.s:=by
  simp only[Fr.u,one,U_,bS_];rw[Fr.u8n _ o_];omega
 have H:((Fr.u (a.one++r) 1:Nat):Int)=a.k:=by
  simp only[Fr.u,one,U_,List.getD_cons_succ,bS_];rw[Fr.u8n _ o_];omega
 rw[E,H,yk4]
theorem mx2:∀(l:List It) (out:List It) (r:List UInt8),(∀a∈l,a.ok=true/\a.fit)->takes l.length (l.flatMap one++r) out=(out++l,r,0)
 |[],out,r,_=>by simp[takes]
 |a::l,out,r,h=>by
  have h1:=h a p_;simp only[r_,takes,P_,J_,zy4 h1.1 h1.2];rw[mx2 l (out++[a]) r (fun b o=>h b (f_ _ o))];simp
theorem rk1 {l:List It} (h:∀a∈l,a.ok=true/\a.fit) (C:l.length<=2000):read (bytes l)=(l,0):=by
 unfold read bytes;rw[Pn.rq _ _ o_];simp only[aT_];rw[if_neg o_,show l.flatMap one=l.flatMap one++[] from (aM_ _).symm,mx2 l [] [] h];have o:l.all ok=true:=Y_.2 fun a z=>(h a z).1;simp[o]
theorem wk5 (a:It):2<=a.one.length/\a.one.length<=32:=by
 have h1:=Pn.jq a.t;have h2:=Pn.jq a.v;have h3:=Pn.jq (sgn a.x);simp only[one,r_,e_];omega
theorem aq1 (l:List It):(bytes l).length<=10+32 *l.length:=by
 have h1:=Pn.jq l.length;have h2:∀l:List It,(l.flatMap one).length<=32 *l.length:=fun l=>by
  induction l with
  |nil=>simp
  |cons a l o=>have:=wk5 a;simp only[P_,e_,r_];omega
 have:=h2 l;simp only[bytes,e_];omega
def key (a:It):List UInt8:=UInt8.ofNat a.s.toNat::UInt8.ofNat a.k.toNat::[56,48,40,32,24,16,8,0].map fun k=>UInt8.ofNat (a.t / 2 ^ k)
end It
end
section
def BoxO (w:World) (e:TypeId) (g:Nat) (xs:List Value):Prop:=w.heap[g]?=some (.cells xs.toArray e (0,0))
variable {w w':World} {e:TypeId} {g:Nat} {xs:List Value} {F:List Nat}
theorem BoxO.cell (h:BoxO w e g xs) (j:Nat):w.cell? (g,j)=xs[j]?:=by rw[cell_of_row _ _ _ _ _ _ h];simp
theorem BoxO.c0 {w:World} {e:TypeId} {q:Nat} {a:Value} {l:List Value} (h:BoxO w e q (a::l)):w.cell? q=some a:=h.cell 0
theorem BoxO.c1 {w:World} {e:TypeId} {q:Nat} {a b:Value} {l:List Value} (h:BoxO w e q (a::b::l)):w.cell? (q,1)=some b:=h.cell 1
theorem BoxO.c2 {w:World} {e:TypeId} {q:Nat} {a b c:Value} {l:List Value} (h:BoxO w e q (a::b::c::l)):w.cell? (q,2)=some c:=h.cell 2
theorem BoxO.c3 {w:World} {e:TypeId} {q:Nat} {a b c d:Value} {l:List Value} (h:BoxO w e q (a::b::c::d::l)):w.cell? (q,3)=some d:=h.cell 3
theorem BoxO.c4 {w:World} {e:TypeId} {q:Nat} {a b c d f:Value} {l:List Value} (h:BoxO w e q (a::b::c::d::f::l)):w.cell? (q,4)=some f:=h.cell 4
theorem BoxO.c5 {w:World} {e:TypeId} {q:Nat} {a b c d f i:Value} {l:List Value} (h:BoxO w e q (a::b::c::d::f::i::l)):w.cell? (q,5)=some i:=h.cell 5
theorem BoxO.c6 {w:World} {e:TypeId} {q:Nat} {a b c d f i j:Value} {l:List Value} (h:BoxO w e q (a::b::c::d::f::i::j::l)):w.cell? (q,6)=some j:=h.cell 6
theorem BoxO.c7 {w:World} {e:TypeId} {q:Nat} {a b c d f i j k:Value} {l:List Value} (h:BoxO w e q (a::b::c::d::f::i::j::k::l)):w.cell? (q,7)=some k:=h.cell 7
theorem BoxO.c8 {w:World} {e:TypeId} {q:Nat} {a b c d f i j k m:Value} {l:List Value} (h:BoxO w e q (a::b::c::d::f::i::j::k::m::l)):w.cell? (q,8)=some m:=h.cell 8
theorem BoxO.free (h:BoxO w e g xs) (j:Nat):w.frozen? (g,j)=false:=frozen_of_row _ _ _ _ _ h
theorem BoxO.lt (h:BoxO w e g xs):g < (w:Nat):=(E_.1 h).1
theorem BoxO.chg (h:BoxO w e g xs) (c:Chg F w w') (o:g∉F):BoxO w' e g xs:=(c.block g h.lt o).trans h
theorem BoxO.below (h:BoxO w e g xs) (o:Below w w w'):BoxO w' e g xs:=(o.block g h.lt).trans h
theorem BoxO.alloc (h:BoxO w e g xs) (o:Obj):BoxO (w.alloc o) e g xs:=h.below (b_ _ o)
theorem BoxO.new (w:World) (cs:Array Value) (e:TypeId):BoxO (w.alloc (.cells cs e)) e w cs.toList:=heap_alloc_new _ _
theorem BoxO.store (h:BoxO w e g xs) (j:Nat) (u:Value):BoxO (w.setCell (g,j) u) e g (xs.set j u):=by
 have h1:w.ownsRow 0 e xs.length (.slice (some g) 1 1) 1 xs:=⟨by simp,.inr ⟨g,1,xs.toArray,rfl,A_ _,h,B_ _,by decide,by simp,by simp⟩⟩;obtain⟨h2,_⟩:=h1.stored j u
 rcases h2.2 with ⟨o,_⟩|⟨g2,z,cur,o,_,C,_,_,E,H⟩
 ·cases o
 ·injection o with o _ I
  injection o with o;injection o with o;subst o;subst I;unfold BoxO;have J:cur.toList=xs.set j u:=by
   rw[<-H,i_ (by simp at E ⊢;omega)]
  rw[C,<-J]
theorem BoxO.drewN (h:BoxO w e g xs) (n:Nat):BoxO (w.drewN n) e g xs:=h
theorem BoxO.drew (h:BoxO w e g xs):BoxO w.drew e g xs:=h
theorem tq (w:World) (p:Addr) (v:Value):Chg [p.block] w (w.setCell p v):=(Chg.refl [p.block] w).setCell v (.inl s_)
end
section
theorem dv2 {α:Type} (f:α->List Value) (sz:Nat) (o:∀x,(f x).length=sz) (l:List α):(l.flatMap f).length=l.length *sz:=by
 induction l with
 |nil=>simp
 |cons h t z=>rw[P_,e_,z,o,r_,bz_];omega
theorem kv1 {α:Type} (f:α->List Value) (sz:Nat) (o:∀x,(f x).length=sz):∀(l:List α) (k j:Nat) (z:k < l.length),j < sz->(l.flatMap f)[k *sz+j]?=(f l[k])[j]?
 |h::t,0,j,_,hj=>by
  rw[P_,K_ (by rw[o];omega)];simp
 |h::t,k+1,j,z,hj=>by
  have e:(k+1)*sz+j - (f h).length=k *sz+j:=by rw[o,bz_];omega
  rw[P_,af_ (by rw[o,bz_];omega),e,kv1 f sz o t k j (by simpa using z) hj];simp
theorem fx1 {B n sz:Nat} {w:World} {A:Option Addr} {vs:List Value} (h:Row B w A n sz vs) {i:Nat} {v:Value} (o:vs[i]?=some v):∃a,A=some a/\a.block < B/\w.cell? (a.add i)=some v:=by
 obtain⟨hi,e⟩:=C_.1 o;obtain⟨a,z,C,E⟩:=h.cell i hi;exact⟨a,z,C,by rw[E,e]⟩
theorem uq2 (a:Addr) (k:Nat) {j:Nat} (hj:0 < j):a.add (k+j)=⟨(a.add k).block,(a.add k).off+j,none⟩:=by
 rw[<-lk2,Addr.add,if_neg o_]
def It.cells (a:It):List Value:=[a.s,a.k,[a.t],[a.v],a.x]
def It.val (a:It):Value:=.agg #[a.s,a.k,[a.t],[a.v],a.x]
theorem It.dw (a:It):a.cells.length=5:=rfl
theorem ik {a b:Bool} (h:a=b):Ending.returned (.bool a)=.returned (.bool b):=by rw[h]
def itc (l:List It):List Value:=l.flatMap It.cells
theorem iw (l:List It):(itc l).length=l.length *5:=dv2 It.cells 5 It.dw l
theorem xj2 (l:List It) (k j:Nat) (o:k < l.length) (hj:j < 5):(itc l)[k *5+j]?=(l[k]).cells[j]?:=kv1 It.cells 5 It.dw l k j o hj
theorem vz (a b:List It):itc (a++b)=itc a++itc b:=by simp[itc]
theorem ax1 (l:List It):∀u∈itc l,u.oneCell'=true:=by
 intro u o;simp only[itc,W_,It.cells,h_,ar_,or_false]at o;obtain⟨a,_,rfl|rfl|rfl|rfl|rfl⟩:=o<;>rfl
theorem ex1 (l:List It) (k:Nat):itc (l.take k)=(itc l).take (k *5):=by
 induction l generalizing k with
 |nil=>simp[itc]
 |cons a l o=>
  cases k with
  |zero=>simp[itc]
  |succ k=>
   have e:(k+1)*5=k *5+5:=o_
   have h:=o k;unfold itc at h ⊢;rw[ch_,P_,P_,h,e];rfl
theorem qk1 (l:List It) (k:Nat):itc (l.drop k)=(itc l).drop (k *5):=by
 induction l generalizing k with
 |nil=>simp[itc]
 |cons a l o=>
  cases k with
  |zero=>simp[itc]
  |succ k=>
   have e:(k+1)*5=k *5+5:=o_
   have h:=o k;unfold itc at h ⊢;rw[bR_,P_,h,e];rfl
structure ItAt (w:World) (a:Addr) (k:Nat) (x:It):Prop where
 c0:w.cell? (a.add (k *5))=some (.int .i64 x.s)
 c1:w.cell? ⟨(a.add (k *5)).block,(a.add (k *5)).off+1,none⟩=some (.int .i64 x.k)
 c2:w.cell? ⟨(a.add (k *5)).block,(a.add (k *5)).off+2,none⟩=some (.int .u64 x.t)
 c3:w.cell? ⟨(a.add (k *5)).block,(a.add (k *5)).off+3,none⟩=some (.int .u64 x.v)
 c4:w.cell? ⟨(a.add (k *5)).block,(a.add (k *5)).off+4,none⟩=some (.int .i64 x.x)
variable {B B' n:Nat} {w w':World} {A:Option Addr} {xs:List It}
theorem Row.yw (h:Row B w A n 5 (itc xs)):xs.length=n:=by
 have:=h.len;rw[iw]at this;omega
theorem Row.it (h:Row B w A n 5 (itc xs)) {k:Nat} (O:k < n):∃a,∃C:k < xs.length,A=some a/\a.block < B/\ItAt w a k xs[k]:=by
 have C:k < xs.length:=by have:=h.yw;omega
 have g:=fun j (hj:j < 5)=>xj2 xs k j C hj;obtain⟨a,E,H,c0⟩:=fx1 h (g 0 o_);have z:∀j v,0 < j->j < 5->(It.cells xs[k])[j]?=some v->w.cell? ⟨(a.add (k *5)).block,(a.add (k *5)).off+j,none⟩=some v:=fun j v I hj J=>by
  obtain⟨Q,o,_,c⟩:=fx1 h ((g j hj).trans J);rw[E]at o;injection o with o;subst o;rw[<-uq2 a (k *5) I];exact c
 exact⟨a,C,E,H,⟨c0,z 1 _ o_ o_ rfl,z 2 _ o_ o_ rfl,z 3 _ o_ o_ rfl,z 4 _ o_ o_ rfl⟩⟩
theorem ItAt.below {a:Addr} {k:Nat} {x:It} (h:ItAt w a k x) (z:a.block < B) (o:Below B w w'):ItAt w' a k x:=by
 have e:(a.add (k *5)).block < B:=by rw[add_block];exact z
 exact⟨(o.cell e).trans h.c0,(o.cell (p:=⟨(a.add (k *5)).block,(a.add (k *5)).off+1,none⟩) e).trans h.c1,(o.cell (p:=⟨(a.add (k *5)).block,(a.add (k *5)).off+2,none⟩) e).trans h.c2,(o.cell (p:=⟨(a.add (k *5)).block,(a.add (k *5)).off+3,none⟩) e).trans h.c3,(o.cell (p:=⟨(a.add (k *5)).block,(a.add (k *5)).off+4,none⟩) e).trans h.c4⟩
theorem Row.fz6 (h:Row B w A n 5 (itc xs)) {k m:Nat} (o:k<=m) (z:m<=n) {A':Option Addr} (C:k < m->A'=A.map (·.add (k *5))):Row B w A' (m - k) 5 (itc ((xs.drop k).take (m - k))):=by
 have:=h.cut o z C
 rwa [ex1,qk1]
end
abbrev Nm:=List (List UInt8×Nat)
namespace Nm
def get (m:Nm) (s:List UInt8):Option Nat:=(m.find? fun p=>p.1==s).map (·.2)
def ins (x:List UInt8×Nat):Nm->Nm
 |[]=>[x]
 |y::r=>if bytesBefore x.1 y.1 then x::y::r else y::ins x r
def del (m:Nm) (s:List UInt8):Nm:=m.filter fun p=>!(p.1==s)
def put (m:Nm) (s:List UInt8) (i:Nat):Nm:=ins (s,i) (del m s)
def lit1 (p:List UInt8×Nat):Lit×DataW Unit:=(.string p.1,.lit (.int .i64 p.2))
def enc (m:Nm):DataW Unit:=.map (m.map lit1)
def Apart (m:Nm):Prop:=m.Pairwise fun p q=>p.1≠q.1
theorem ry4 (x:List UInt8×Nat):∀m:Nm,DataW.insert (lit1 x) (m.map lit1)=(ins x m).map lit1
 |[]=>rfl
 |y::r=>by
  have o:=ry4 x r;simp only[al_,DataW.insert,ins];have e:(lit1 x).1.before (lit1 y).1=bytesBefore x.1 y.1:=rfl;rw[e];split
  ·simp
  ·simp[o]
theorem oz2 (s:List UInt8) (m:Nm):(m.map lit1).filter (fun p=>!p.1.sameKey (.string s))=(del m s).map lit1:=by
 induction m with
 |nil=>rfl
 |cons y r o=>
  have e:(lit1 y).1.sameKey (.string s)=(y.1==s):=rfl;simp only[al_,bv_,e,del]at o ⊢;split<;>simp_all
theorem wx4 (m:Nm) (s:List UInt8):(enc m).del (.string s)=enc (del m s):=by
 unfold enc DataW.del;simp only;rw[oz2]
theorem vj2 (m:Nm) (s:List UInt8) (i:Nat):(enc m).put (.string s) (.lit (.int .i64 i))=enc (put m s i):=by
 unfold enc DataW.put put;simp only;rw[oz2,<-ry4];rfl
theorem vx2 (s:List UInt8) (m:Nm):(m.map lit1).find? (fun p=>p.1.sameKey (.string s))=(m.find? fun p=>p.1==s).map lit1:=by
 induction m with
 |nil=>rfl
 |cons y r o=>
  have e:(lit1 y).1.sameKey (.string s)=(y.1==s):=rfl;simp only[al_,b1_,e];split<;>simp_all
theorem dx2 (m:Nm) (s:List UInt8):Maps.has (enc m) (.string s)=(get m s).isSome:=by
 unfold enc get;have e:(m.map lit1).any (fun p=>p.1.sameKey (.string s))=((m.map lit1).find? (fun p=>p.1.sameKey (.string s))).isSome:=by
  rw[cF_,List.find?_isSome,aF_]
 rw[Maps.has_eq,e,vx2];simp
theorem ky3 (m:Nm) (s:List UInt8) (z:DataW Unit) {i:Nat} (h:get m s=some i):(enc m).atKey (.string s) z=.lit (.int .i64 i):=by
 unfold enc DataW.atKey;simp only;rw[vx2];unfold get at h
 cases o:m.find? (fun p=>p.1==s) with
 |none=>rw[o]at h;cases h
 |some p=>rw[o]at h;simp at h;simp[lit1,h]
theorem dq2 (m:Nm):Maps.size (enc m)=m.length:=by simp[enc,Maps.size_eq]
theorem get_mem {m:Nm} {s:List UInt8} {i:Nat} (h:get m s=some i):(s,i)∈m:=by
 unfold get at h
 cases o:m.find? (fun p=>p.1==s) with
 |none=>rw[o]at h;cases h
 |some p=>
  rw[o]at h;have h1:=cr_ o;have h2:=List.find?_some o;simp at h h2;subst h;subst h2;exact h1
theorem ty3 {x y:List UInt8×Nat}:∀{m:Nm},y∈ins x m↔y=x\/y∈m
 |[]=>by simp[ins]
 |z::r=>by
  have o:=@ty3 x y r;simp only[ins];split
  ·simp
  ·simp[o,or_left_comm]
theorem zq {m:Nm} {s:List UInt8} {p:List UInt8×Nat}:p∈del m s↔p∈m/\p.1≠s:=by simp[del]
theorem qx {m:Nm} {s:List UInt8} {i:Nat} {p:List UInt8×Nat}:p∈put m s i↔p=(s,i)\/(p∈m/\p.1≠s):=by rw[put,ty3,zq]
theorem zk1 {m:Nm} (h:Apart m) {s:List UInt8} {i:Nat} (o:(s,i)∈m):get m s=some i:=by
 unfold Apart at h
 induction m with
 |nil=>cases o
 |cons y r z=>
  obtain⟨h1,h2⟩:=ao_.1 h;unfold get;rw[b1_]
  rcases h_.1 o with rfl|o
  ·simp
  ·have:=h1 _ o
   simp only at this;rw[show (y.1==s)=false from by simpa using this];exact z h2 o
theorem tv2 (x:List UInt8×Nat):∀m:Nm,(ins x m).length=m.length+1
 |[]=>rfl
 |y::r=>by
  simp only[ins];split
  ·simp
  ·simp[tv2 x r]
theorem uj1 {m:Nm} (h:Apart m) (s:List UInt8):Apart (del m s):=List.Pairwise.filter _ h
theorem kq3 {x:List UInt8×Nat}:∀{m:Nm},Apart m->(∀p∈m,p.1≠x.1)->Apart (ins x m)
 |[],_,_=>by simp[ins,Apart]
 |y::r,h,z=>by
  obtain⟨h1,h2⟩:=ao_.1 h;simp only[ins];split
  ·exact ao_.2 ⟨fun p o=>fun e=>z p o e.symm,h⟩
  ·refine ao_.2 ⟨fun p o=>?_,kq3 h2 (fun p o=>z p (by simp[o]))⟩
   rcases ty3.1 o with rfl|o
   ·exact z y s_
   ·exact h1 p o
theorem cy1 {m:Nm} (h:Apart m) (s:List UInt8) (i:Nat):Apart (put m s i):=kq3 (uj1 h s) (fun _ o=>(zq.1 o).2)
theorem get_none {m:Nm} {s:List UInt8}:get m s=none↔∀p∈m,p.1≠s:=by
 unfold get;simp
theorem pq1 (m:Nm) (s:List UInt8):get (del m s) s=none:=get_none.2 fun _ o=>(zq.1 o).2
theorem dq1 {m:Nm} (h:Apart m) {s t:List UInt8} (o:t≠s):get (del m s) t=get m t:=by
 cases z:get m t with
 |none=>exact get_none.2 fun p C=>get_none.1 z p (zq.1 C).1
 |some i=>exact zk1 (uj1 h s) (zq.2 ⟨get_mem z,o⟩)
theorem cj1 {m:Nm} (h:Apart m) (s:List UInt8) (i:Nat):get (put m s i) s=some i:=zk1 (cy1 h s i) (qx.2 (.inl rfl))
theorem ry {m:Nm} (h:Apart m) {s t:List UInt8} (o:t≠s) (i:Nat):get (put m s i) t=get m t:=by
 cases C:get m t with
 |none=>
  refine get_none.2 fun p z=>?_
  rcases qx.1 z with rfl|⟨z,_⟩
  ·exact fun e=>o e.symm
  ·exact get_none.1 C p z
 |some j=>exact zk1 (cy1 h s i) (qx.2 (.inr ⟨get_mem C,o⟩))
theorem mj1 (m:Nm) (s:List UInt8):(del m s).length<=m.length:=aw_ _ _
theorem mv1 {m:Nm} {s:List UInt8} {i:Nat} (h:get m s=some i):(del m s).length < m.length:=by
 have o:=get_mem h;unfold del;refine List.length_filter_lt_length_iff_exists.2 ⟨_,o,by simp⟩
theorem dj1 (m:Nm) (s:List UInt8) (i:Nat):(put m s i).length<=m.length+1:=by
 rw[put,tv2];have:=mj1 m s;omega
end Nm
structure Tn where
 kind:Nat
 file:Nat
 a:List UInt8
 b:List UInt8
def Tn.go (t:Tn) (m:Nm):Nm:=
 if t.kind=1 then m.put t.a t.file
 else if t.kind=2 then match m.get t.a with
  |some i=>(m.put t.b i).del t.a
  |none=>m
 else if t.kind=3 then m.del t.a
 else m
structure Sd where
 quota:Nat
 files:List (List UInt8×Nat)
 names:Nm
 lasted:Nm
 turns:List Tn
 calls:Int
 dead:Bool
 stop:Nat
 fail:Nat
namespace Sd
variable (d:Sd)
def okCh (c:UInt8):Bool:=(decide (97<=c.toNat) &&decide (c.toNat<=122))||(decide (48<=c.toNat) &&decide (c.toNat<=57))||decide (c.toNat=46)
def named (s:List UInt8):Bool:=decide (1<=s.length) &&decide (s.length<=16) &&s.all okCh
def new (quota:Int):Sd:=⟨quota.toNat,[],[],[],[],0,false,0,0⟩
def call (names:List (List UInt8)):Sd×Nat:=
 if names.all named=false then (d,10)
 else
  let d1:={ d with calls:=wrap64 (d.calls+1) }
  if d.dead=true then (d1,50)
  else
   let d2:=if 0 < d.stop then { d1 with stop:=d.stop - 1,dead:=decide (d.stop - 1=0) } else d1
   if 0 < d.fail then
    let d3:={ d2 with fail:=d.fail - 1 }
    if d.fail - 1=0 then (d3,15) else (d3,0)
   else (d2,0)
def size (i:Nat):Nat:=(d.files.getD i ([],0)).1.length
def used:Nat:=(d.names.map fun p=>d.size p.2).sum
def create (s:List UInt8):Sd×Nat:=
 let c:=d.call [s]
 if c.2≠0 then c
 else if (d.names.get s).isSome then (c.1,12)
 else if 64<=d.names.length then (c.1,65)
 else ({ c.1 with names:=d.names.put s d.files.length,turns:=d.turns++[⟨1,d.files.length,s,[]⟩],files:=d.files++[([],0)] },0)
def append (s b:List UInt8):Sd×Nat:=
 let c:=d.call [s]
 if c.2≠0 then c
 else match d.names.get s with
  |none=>(c.1,11)
  |some i=>
   if 250000 < b.length\/250000 < d.size i+b.length then (c.1,2)
   else if d.quota < d.used+b.length then (c.1,15)
   else ({ c.1 with files:=d.files.set i ((d.files.getD i ([],0)).1++b,(d.files.getD i ([],0)).2) },0)
def read (s:List UInt8):List UInt8×Nat:=
 if named s=false then ([],10)
 else if d.dead=true then ([],50)
 else match d.names.get s with
  |none=>([],11)
  |some i=>((d.files.getD i ([],0)).1,0)
def sync (s:List UInt8):Sd×Nat:=
 let c:=d.call [s]
 if c.2≠0 then c
 else match d.names.get s with
  |none=>(c.1,11)
  |some i=>({ c.1 with files:=d.files.set i ((d.files.getD i ([],0)).1,d.size i) },0)
def rename (a b:List UInt8):Sd×Nat:=
 let c:=d.call [a,b]
 if c.2≠0 then c
 else if (d.names.get a).isNone then (c.1,11)
 else if a=b then (c.1,0)
 else ({ c.1 with names:=Tn.go ⟨2,0,a,b⟩ d.names,turns:=d.turns++[⟨2,0,a,b⟩] },0)
def remove (s:List UInt8):Sd×Nat:=
 let c:=d.call [s]
 if c.2≠0 then c
 else if (d.names.get s).isNone then (c.1,11)
 else ({ c.1 with names:=Tn.go ⟨3,0,s,[]⟩ d.names,turns:=d.turns++[⟨3,0,s,[]⟩] },0)
def ak:Sd×Nat:=
 let c:=d.call []
 if c.2≠0 then c
 else ({ c.1 with lasted:=d.names,turns:=[] },0)
def list:List (List UInt8):=if d.dead=true then [] else (d.names.map (·.1)).mergeSort fun x y=>decide (x<=y)
def dx1 (i:Nat):Bool:=(d.turns.any fun t=>decide (t.kind=1) &&decide (t.file=i))||(d.names.any fun p=>decide (p.2=i))||(d.lasted.any fun p=>decide (p.2=i))
def led:List Nat:=(List.range d.files.length).filter d.dx1
def next (keep:List Int) (none_:Int):Int×List Int:=match keep with
 |[]=>(none_,[])
 |n::r=>(n,r)
def kept (n:Nat) (x:Int):Nat:=(x % (n+1:Int)).toNat
def cutFiles:List Nat->List (List UInt8×Nat)->List Int->List (List UInt8×Nat)×List Int
 |[],fs,keep=>(fs,keep)
 |i::r,fs,keep=>
  let f:=fs.getD i ([],0)
  let n:=f.1.length - f.2
  if n=0 then cutFiles r fs keep
  else
   let x:=next keep n
   let b:=f.1.take (f.2+kept n x.1)
   cutFiles r (fs.set i (b,b.length)) x.2
def doTurns:List Tn->Nm->List Int->Nm
 |[],m,_=>m
 |t::r,m,keep=>
  let x:=next keep 0
  doTurns r (if x.1 % 2=0 then t.go m else m) x.2
def ak1 (keep:List Int):Sd:=
 let c:=cutFiles d.led d.files keep
 let m:=doTurns d.turns d.lasted c.2
 { d with files:=c.1,names:=m,lasted:=m,turns:=[],dead:=false,stop:=0,fail:=0 }
def load:Nat:=d.files.length+d.turns.length
def jx1 (m:Nm) (n:Nat):Prop:=∀p∈m,p.2 < n
structure Wf:Prop where
 quota:d.quota<=1099511627776
 file:∀i (h:i < d.files.length),d.files[i].2<=d.files[i].1.length/\d.files[i].1.length<=250000
 names:jx1 d.names d.files.length
 lasted:jx1 d.lasted d.files.length
 apart:Nm.Apart d.names
 lapart:Nm.Apart d.lasted
 most:d.names.length<=64
 turn:∀t∈d.turns,t.file<=d.files.length/\(t.kind=1->t.file < d.files.length)
 gnames:∀p∈d.names,named p.1=true
 glasted:∀p∈d.lasted,named p.1=true
 gturns:∀t∈d.turns,named t.a=true/\(t.kind=2->named t.b=true)/\(t.kind=1\/t.kind=2\/t.kind=3)
 stop:d.stop<=9223372036854775807
 fail:d.fail<=9223372036854775807
end Sd
end Go.Proofs.YtfbkjjdfboagfaaGreatDoor
