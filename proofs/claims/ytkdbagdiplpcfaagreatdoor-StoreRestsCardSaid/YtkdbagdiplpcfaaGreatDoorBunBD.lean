/- Some of the texts. No conditions. -/
import Derived.Test.YtkdbagdiplpcfaaGreatDoorBunBA
import Derived.Test.YtkdbagdiplpcfaaGreatDoorBunBB

set_option linter.unusedSimpArgs false
set_option linter.unusedVariables false
set_option maxRecDepth 100000
set_option maxHeartbeats 16000000
namespace Go.Proofs.YtkdbagdiplpcfaaGreatDoor
open Go.Proofs.Tryz Go Go.RowKit Go.Lib Go.Shelf
namespace Nd
variable {q:Int} {S:Sd} {V:Sv} {c d:Nat}
theorem dv5 {v:Vw} (C:v.ok=true) {m:Mt} (H:St.may1 m.floor v.floor/\St.may1 m.cert v.cert/\St.may1 m.at_ v.at_/\St.may1 m.lease v.lease):v.app ⟨[],[],0,m.floor,m.cert,m.at_,m.lease⟩=some { v with floor:=m.floor,cert:=m.cert,at_:=m.at_,lease:=m.lease }:=by
 obtain⟨⟨Z,I⟩,⟨m2,J⟩,⟨m3,O⟩,⟨m4,Q⟩⟩:=H;have U:({ v with floor:=m.floor,cert:=m.cert,at_:=m.at_,lease:=m.lease }:Vw).ok=true:=by
  simp only[Vw.ok,bj3,G_,decide_eq_true_eq]at C ⊢;refine⟨⟨⟨C.1.1.1,?_⟩,C.1.2⟩,C.2⟩;omega
 have E:∀a b:Nat,(a=0->b=0)->orElse a b=a:=fun a b h=>by
  unfold orElse;split
  ·rename_i e
   rw[h e,e]
  ·rfl
 unfold Vw.app dropAll;simp only[E _ _ I,E _ _ J,E _ _ O,E _ _ Q,if_true,ak_];rw[if_pos U]
end Nd
end Go.Proofs.YtkdbagdiplpcfaaGreatDoor
