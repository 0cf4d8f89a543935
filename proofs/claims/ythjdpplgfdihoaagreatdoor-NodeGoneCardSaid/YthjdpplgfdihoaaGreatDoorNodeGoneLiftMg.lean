/- NodeGone, lifted to the domain of its row. -/
import Derived.Test.YthjdpplgfdihoaaGreatDoorCards
import Derived.Test.YthjdpplgfdihoaaGreatDoorTie
import Derived.Test.YthjdpplgfdihoaaGreatDoorGoneBMg
namespace Go.Proofs.YthjdpplgfdihoaaGreatDoor.nodeGone
open Go Go.ChangeShapes Go.WideShapes Go.ChangeAt Go.RowKit
open Go.ChangeMaps (open_string shut_string)
set_option linter.unusedVariables false
theorem wfu64 {n:Int} (h:(Lit.int .u64 n).wf=true):∃u:Nat,n=(u:Int)∧u < 18446744073709551616:=by
 simp only[Lit.wf,IntKind.min,IntKind.max,IntKind.signed,IntKind.bits,Bool.and_eq_true,decide_eq_true_eq,Bool.false_eq_true,if_false]at h
 exact⟨n.toNat,by omega,by omega⟩
theorem laidOut:laidOutB Tryz.prog=true:=by kernel_rfl
theorem own:ownKnob Tryz.prog.godebug=none:=by kernel_rfl
abbrev synS:ByteArray:={ data:=#[105,110,118,97,108,105,100,32,115,121,110,116,97,120] }
abbrev rngS:ByteArray:={ data:=#[118,97,108,117,101,32,111,117,116,32,111,102,32,114,97,110,103,101] }
noncomputable def low:Nat:=(World.holding Tryz.prog default ⟨#[],#[],[]⟩).heap.size
noncomputable def laidWorld (os:Os):World:=
 let w0:=World.holding Tryz.prog os ⟨#[.cells #[.string synS] 437,.cells #[.string rngS] 437],#[],[]⟩
 { w0 with heap:=((((w0.heap.modify 4 fun
   |.cells _ t frozen=>.cells #[.int .u8 0,.int .u8 1,.int .u8 28,.int .u8 2,.int .u8 29,.int .u8 14,.int .u8 24,.int .u8 3,.int .u8 30,.int .u8 22,.int .u8 20,.int .u8 15,.int .u8 25,.int .u8 17,.int .u8 4,.int .u8 8,.int .u8 31,.int .u8 27,.int .u8 13,.int .u8 23,.int .u8 21,.int .u8 19,.int .u8 16,.int .u8 7,.int .u8 26,.int .u8 12,.int .u8 18,.int .u8 6,.int .u8 11,.int .u8 5,.int .u8 10,.int .u8 9] t frozen
   |o=>o).modify 5 fun
   |.cells _ t frozen=>.cells #[.int .u8 0,.int .u8 1,.int .u8 56,.int .u8 2,.int .u8 57,.int .u8 49,.int .u8 28,.int .u8 3,.int .u8 61,.int .u8 58,.int .u8 42,.int .u8 50,.int .u8 38,.int .u8 29,.int .u8 17,.int .u8 4,.int .u8 62,.int .u8 47,.int .u8 59,.int .u8 36,.int .u8 45,.int .u8 43,.int .u8 51,.int .u8 22,.int .u8 53,.int .u8 39,.int .u8 33,.int .u8 30,.int .u8 24,.int .u8 18,.int .u8 12,.int .u8 5,.int .u8 63,.int .u8 55,.int .u8 48,.int .u8 27,.int .u8 60,.int .u8 41,.int .u8 37,.int .u8 16,.int .u8 46,.int .u8 35,.int .u8 44,.int .u8 21,.int .u8 52,.int .u8 32,.int .u8 23,.int .u8 11,.int .u8 54,.int .u8 26,.int .u8 40,.int .u8 15,.int .u8 34,.int .u8 20,.int .u8 31,.int .u8 10,.int .u8 25,.int .u8 14,.int .u8 19,.int .u8 9,.int .u8 13,.int .u8 8,.int .u8 7,.int .u8 6] t frozen
   |o=>o).modify 1 fun
   |.cells _ t frozen=>.cells #[.int .u64 1,.int .u64 10,.int .u64 100,.int .u64 1000,.int .u64 10000,.int .u64 100000,.int .u64 1000000,.int .u64 10000000,.int .u64 100000000,.int .u64 1000000000,.int .u64 10000000000,.int .u64 100000000000,.int .u64 1000000000000,.int .u64 10000000000000,.int .u64 100000000000000,.int .u64 1000000000000000,.int .u64 10000000000000000,.int .u64 100000000000000000,.int .u64 1000000000000000000,.int .u64 10000000000000000000] t frozen
   |o=>o).modify 2 fun
   |.cells _ t frozen=>.cells #[.iface 435 (.pointer (some ⟨low,0,none⟩))] t frozen
   |o=>o).modify 3 fun
   |.cells _ t frozen=>.cells #[.iface 435 (.pointer (some ⟨low+1,0,none⟩))] t frozen
   |o=>o }
theorem laid_met (os:Os) (args:Array Value):laidMetH Tryz.prog Rows.nodeGoneRow.laid ((laidWorld os).forCall (fun _ _=>0) ⟨#[],args,[]⟩).memory:=by
 show laidMet Tryz.prog Rows.nodeGoneRow.laid _
 exact laidMet_of_run' 200 (by kernel_rfl) (by kernel_rfl)
set_option maxRecDepth 100000 in
set_option maxHeartbeats 4000000 in
theorem lifted (os:Os) (started:os.Started) (H:Type) (enc:TypeId×Value→H):
  ReturnsInHanded {} Tryz.checked os 7 .any (fun w args=>(Rows.nodeGoneSpec.pre enc Tryz.prog Tryz.f7 Rows.nodeGoneRow.domain false w args∧laidMetH Tryz.prog Rows.nodeGoneRow.laid w)∧sizedMet enc Tryz.prog Tryz.f7 (OpenSpec.ofChange Rows.nodeGoneSpec) false w args)
   (Rows.nodeGoneSpec.post enc Tryz.prog Tryz.f7 false true false false):=by
 refine returnsInHanded_of_change_and (C:=Tryz.checked) (X:=fun w _=>laidMetH Tryz.prog Rows.nodeGoneRow.laid w) (fun _ _ _ hh h=>h.of_heap hh) own started (by kernel_rfl) Tryz.func7
  (ChangeSpec.witness_at (enc:=enc) (C:=Tryz.checked) (os:=os) (X:=fun w _=>laidMetH Tryz.prog Rows.nodeGoneRow.laid w) false (laidWorld os) #[.int .u64 0,.int .u64 0,.int .u64 0,.int .i64 0] 8 rfl (by kernel_rfl) (by kernel_rfl) (by kernel_rfl) (by kernel_rfl) (by kernel_rfl) (laid_met os _)) ?_
 intro W base args ds gs before hval0 hW _ hsz0 hL _;have hval:∀(j:Nat) t v,Tryz.f7.params[j]?=some t→args[j]?=some v→Value.okWide Tryz.prog W .any base t v:=hval0;have hW':=hW;obtain⟨p,q,hA0,hV,rfl,hfz,hnd⟩:=hW;have hA:DataW.TrodAll enc Tryz.prog W 0 (fun _=>true) true Tryz.f7.params.toList args.toList ds p:=hA0;rw[Tryz.params7]at hA hval;obtain⟨v0,v1,v2,v3,d0,d1,d2,d3,p0,p1,p2,p3,rfl,rfl,rfl,h0,h1,h2,h3⟩:=trodAll_four hA;obtain⟨rfl,rfl⟩:=trodVars_none hV;obtain⟨x0,rfl,rfl,rfl,h0w⟩:=open_int Tryz.underlying22 (hval 0 _ v0 rfl rfl) h0;have h0w':=h0w;obtain⟨x0,rfl,hb0⟩:=wfu64 h0w;obtain⟨x1,rfl,rfl,rfl,h1w⟩:=open_int Tryz.underlying22 (hval 1 _ v1 rfl rfl) h1;have h1w':=h1w;obtain⟨x1,rfl,hb1⟩:=wfu64 h1w;obtain⟨x2,rfl,rfl,rfl,h2w⟩:=open_int Tryz.underlying22 (hval 2 _ v2 rfl rfl) h2;have h2w':=h2w;obtain⟨x2,rfl,hb2⟩:=wfu64 h2w;obtain⟨x3,rfl,rfl,rfl,h3w⟩:=open_int Tryz.underlying3 (hval 3 _ v3 rfl rfl) h3;clear hA0 hval0;have HE:Env W:=gx5 W hL;simp only[aU_]at hW';refine(oz2 x0 x1 x2 x3 hb0 hb1 hb2 HE).mono fun e W' ⟨he,bel⟩=>?_;subst he;exact⟨_,rfl,_,_,_,[],[],[],hW',trodAll_mk1 (shut_bool Tryz.underlying4 _),trodAll_mk4 (shut_int Tryz.underlying22 h0w') (shut_int Tryz.underlying22 h1w') (shut_int Tryz.underlying22 h2w') (shut_int Tryz.underlying3 h3w),rfl,bel.frame _,fun h=>by cases h⟩
end Go.Proofs.YthjdpplgfdihoaaGreatDoor.nodeGone
