/-
  No cell of these rows narrows 'for every input' (looked for: loops, veiled, ifaces, maps, wideKeys, modest, calm, conditions, laid).
  DERIVED. THE GIVEN ROWS OF THIS SEAT. 12 by the template 'for every input the law returns true; each argument reads behind the call as it read before'; 0 by the template 'total and deterministic' (their statements: YtmfobogicdeokaaTotals.lean).
  GIVEN WITH THE SEED: the statements are not yours to turn. If you find one false, say at which input.
  Laid BY PROGRAM, IN A SANDBOX (cutbox-rows.mjs): the forced cells as the released guide's own fill.sh prints them over the translation 42a6d2759d09a18c… (all of the seat's roots in one cut). By AI agents, Wed Nov 11 2026. No macro, syntax, notation, axiom, sorry.
-/
import Derived.Test.YtmfobogicdeokaaChecked
import GoSem.Claim
import GoSem.ClaimJoined
import GoSem.ClaimMapViews
import Derived.JoinedTies
import Derived.KernelRfl
namespace Go.Proofs.Ytmfobogicdeokaa
/- THE CELL 'sum', in the pinned program and in every row, IS THE sha256 OF THE DUMP (.gsa) THAT YtmfobogicdeokaaProg.lean LOADS. Nothing in Lean hashes anything: it is a label: what it is worth is what the hold of that sum in a sandbox is worth. -/
noncomputable def Try.pinned : Pinned := { name := "ytmfobogicdeokaa", sum := "42a6d2759d09a18c6df7792a10e6e130e2eb07ffaf8ed671a6d7f4313d863146", checked := Try.checked }
namespace Rows
def none {H : Type} : Left H := { results := [], args := [] }

/-- 'clepsydralaw2.SumLast': WHATEVER THE INPUT: true; the input reads as it did. -/
def sumLastSpec : ChangeSpec := { name := "sumLast", fn := fun _ => fun
  | [d1, d2, d3] => { results := [.lit (.bool true)], args := [d1, d2, d3] }
  | _ => none }
def sumLastRow : OpenClaim := { program := "ytmfobogicdeokaa", sum := "42a6d2759d09a18c6df7792a10e6e130e2eb07ffaf8ed671a6d7f4313d863146", func := "clepsydra/clepsydralaw2.SumLast", spec := "sumLast", apart := false }
def SumLastSaid : Prop := sumLastRow.holds Try.pinned (OpenSpec.ofChange sumLastSpec)

/-- ITS FALSE NEIGHBOUR: 'it returns false'. Refute it at one input. -/
def sumLastWrong : ChangeSpec := { name := "sumLast", fn := fun _ => fun
  | [d1, d2, d3] => { results := [.lit (.bool false)], args := [d1, d2, d3] }
  | _ => none }
def SumLastWrongFalsely : Prop := sumLastRow.holds Try.pinned (OpenSpec.ofChange sumLastWrong)

/-- 'clepsydralaw2.SumRest': WHATEVER THE INPUT: true; the input reads as it did. -/
def sumRestSpec : ChangeSpec := { name := "sumRest", fn := fun _ => fun
  | [d1, d2] => { results := [.lit (.bool true)], args := [d1, d2] }
  | _ => none }
def sumRestRow : OpenClaim := { program := "ytmfobogicdeokaa", sum := "42a6d2759d09a18c6df7792a10e6e130e2eb07ffaf8ed671a6d7f4313d863146", func := "clepsydra/clepsydralaw2.SumRest", spec := "sumRest", apart := false }
def SumRestSaid : Prop := sumRestRow.holds Try.pinned (OpenSpec.ofChange sumRestSpec)

/-- ITS FALSE NEIGHBOUR: 'it returns false'. Refute it at one input. -/
def sumRestWrong : ChangeSpec := { name := "sumRest", fn := fun _ => fun
  | [d1, d2] => { results := [.lit (.bool false)], args := [d1, d2] }
  | _ => none }
def SumRestWrongFalsely : Prop := sumRestRow.holds Try.pinned (OpenSpec.ofChange sumRestWrong)

/-- 'clepsydralaw2.SumBits': WHATEVER THE INPUT: true; the input reads as it did. -/
def sumBitsSpec : ChangeSpec := { name := "sumBits", fn := fun _ => fun
  | [d1, d2, d3, d4, d5] => { results := [.lit (.bool true)], args := [d1, d2, d3, d4, d5] }
  | _ => none }
def sumBitsRow : OpenClaim := { program := "ytmfobogicdeokaa", sum := "42a6d2759d09a18c6df7792a10e6e130e2eb07ffaf8ed671a6d7f4313d863146", func := "clepsydra/clepsydralaw2.SumBits", spec := "sumBits", apart := false }
def SumBitsSaid : Prop := sumBitsRow.holds Try.pinned (OpenSpec.ofChange sumBitsSpec)

/-- ITS FALSE NEIGHBOUR: 'it returns false'. Refute it at one input. -/
def sumBitsWrong : ChangeSpec := { name := "sumBits", fn := fun _ => fun
  | [d1, d2, d3, d4, d5] => { results := [.lit (.bool false)], args := [d1, d2, d3, d4, d5] }
  | _ => none }
def SumBitsWrongFalsely : Prop := sumBitsRow.holds Try.pinned (OpenSpec.ofChange sumBitsWrong)

/-- 'clepsydralaw2.SumBursts': WHATEVER THE INPUT: true; the input reads as it did. -/
def sumBurstsSpec : ChangeSpec := { name := "sumBursts", fn := fun _ => fun
  | [d1, d2, d3] => { results := [.lit (.bool true)], args := [d1, d2, d3] }
  | _ => none }
def sumBurstsRow : OpenClaim := { program := "ytmfobogicdeokaa", sum := "42a6d2759d09a18c6df7792a10e6e130e2eb07ffaf8ed671a6d7f4313d863146", func := "clepsydra/clepsydralaw2.SumBursts", spec := "sumBursts", apart := false }
def SumBurstsSaid : Prop := sumBurstsRow.holds Try.pinned (OpenSpec.ofChange sumBurstsSpec)

/-- ITS FALSE NEIGHBOUR: 'it returns false'. Refute it at one input. -/
def sumBurstsWrong : ChangeSpec := { name := "sumBursts", fn := fun _ => fun
  | [d1, d2, d3] => { results := [.lit (.bool false)], args := [d1, d2, d3] }
  | _ => none }
def SumBurstsWrongFalsely : Prop := sumBurstsRow.holds Try.pinned (OpenSpec.ofChange sumBurstsWrong)

/-- 'clepsydralaw2.SumParts': WHATEVER THE INPUT: true; the input reads as it did. -/
def sumPartsSpec : ChangeSpec := { name := "sumParts", fn := fun _ => fun
  | [d1, d2, d3, d4] => { results := [.lit (.bool true)], args := [d1, d2, d3, d4] }
  | _ => none }
def sumPartsRow : OpenClaim := { program := "ytmfobogicdeokaa", sum := "42a6d2759d09a18c6df7792a10e6e130e2eb07ffaf8ed671a6d7f4313d863146", func := "clepsydra/clepsydralaw2.SumParts", spec := "sumParts", apart := false }
def SumPartsSaid : Prop := sumPartsRow.holds Try.pinned (OpenSpec.ofChange sumPartsSpec)

/-- ITS FALSE NEIGHBOUR: 'it returns false'. Refute it at one input. -/
def sumPartsWrong : ChangeSpec := { name := "sumParts", fn := fun _ => fun
  | [d1, d2, d3, d4] => { results := [.lit (.bool false)], args := [d1, d2, d3, d4] }
  | _ => none }
def SumPartsWrongFalsely : Prop := sumPartsRow.holds Try.pinned (OpenSpec.ofChange sumPartsWrong)

/-- 'clepsydralaw2.SumHashes': WHATEVER THE INPUT: true; the input reads as it did. -/
def sumHashesSpec : ChangeSpec := { name := "sumHashes", fn := fun _ => fun
  | [d1, d2, d3] => { results := [.lit (.bool true)], args := [d1, d2, d3] }
  | _ => none }
def sumHashesRow : OpenClaim := { program := "ytmfobogicdeokaa", sum := "42a6d2759d09a18c6df7792a10e6e130e2eb07ffaf8ed671a6d7f4313d863146", func := "clepsydra/clepsydralaw2.SumHashes", spec := "sumHashes", apart := false }
def SumHashesSaid : Prop := sumHashesRow.holds Try.pinned (OpenSpec.ofChange sumHashesSpec)

/-- ITS FALSE NEIGHBOUR: 'it returns false'. Refute it at one input. -/
def sumHashesWrong : ChangeSpec := { name := "sumHashes", fn := fun _ => fun
  | [d1, d2, d3] => { results := [.lit (.bool false)], args := [d1, d2, d3] }
  | _ => none }
def SumHashesWrongFalsely : Prop := sumHashesRow.holds Try.pinned (OpenSpec.ofChange sumHashesWrong)

/-- 'clepsydralaw7.StampRestarts': WHATEVER THE INPUT: true; the input reads as it did. -/
def stampRestartsSpec : ChangeSpec := { name := "stampRestarts", fn := fun _ => fun
  | [d1, d2, d3] => { results := [.lit (.bool true)], args := [d1, d2, d3] }
  | _ => none }
def stampRestartsRow : OpenClaim := { program := "ytmfobogicdeokaa", sum := "42a6d2759d09a18c6df7792a10e6e130e2eb07ffaf8ed671a6d7f4313d863146", func := "clepsydra/clepsydralaw7.StampRestarts", spec := "stampRestarts", inPlace := ["sync/atomic.StoreUint64", "sync/atomic.LoadUint64", "sync/atomic.AddUint64"], apart := false }
def StampRestartsSaid : Prop := stampRestartsRow.holds Try.pinned (OpenSpec.ofChange stampRestartsSpec)

/-- ITS FALSE NEIGHBOUR: 'it returns false'. Refute it at one input. -/
def stampRestartsWrong : ChangeSpec := { name := "stampRestarts", fn := fun _ => fun
  | [d1, d2, d3] => { results := [.lit (.bool false)], args := [d1, d2, d3] }
  | _ => none }
def StampRestartsWrongFalsely : Prop := stampRestartsRow.holds Try.pinned (OpenSpec.ofChange stampRestartsWrong)

/-- 'clepsydralaw7.StampMakes': WHATEVER THE INPUT: true; the input reads as it did. -/
def stampMakesSpec : ChangeSpec := { name := "stampMakes", fn := fun _ => fun
  | [d1, d2, d3, d4, d5] => { results := [.lit (.bool true)], args := [d1, d2, d3, d4, d5] }
  | _ => none }
def stampMakesRow : OpenClaim := { program := "ytmfobogicdeokaa", sum := "42a6d2759d09a18c6df7792a10e6e130e2eb07ffaf8ed671a6d7f4313d863146", func := "clepsydra/clepsydralaw7.StampMakes", spec := "stampMakes", inPlace := ["sync/atomic.StoreUint64", "sync/atomic.LoadUint64", "sync/atomic.AddUint64"], apart := false }
def StampMakesSaid : Prop := stampMakesRow.holds Try.pinned (OpenSpec.ofChange stampMakesSpec)

/-- ITS FALSE NEIGHBOUR: 'it returns false'. Refute it at one input. -/
def stampMakesWrong : ChangeSpec := { name := "stampMakes", fn := fun _ => fun
  | [d1, d2, d3, d4, d5] => { results := [.lit (.bool false)], args := [d1, d2, d3, d4, d5] }
  | _ => none }
def StampMakesWrongFalsely : Prop := stampMakesRow.holds Try.pinned (OpenSpec.ofChange stampMakesWrong)

/-- 'clepsydralaw7.StampPlays': WHATEVER THE INPUT: true; the input reads as it did. -/
def stampPlaysSpec : ChangeSpec := { name := "stampPlays", fn := fun _ => fun
  | [d1, d2, d3] => { results := [.lit (.bool true)], args := [d1, d2, d3] }
  | _ => none }
def stampPlaysRow : OpenClaim := { program := "ytmfobogicdeokaa", sum := "42a6d2759d09a18c6df7792a10e6e130e2eb07ffaf8ed671a6d7f4313d863146", func := "clepsydra/clepsydralaw7.StampPlays", spec := "stampPlays", inPlace := ["sync/atomic.StoreUint64", "sync/atomic.LoadUint64", "sync/atomic.AddUint64"], apart := false }
def StampPlaysSaid : Prop := stampPlaysRow.holds Try.pinned (OpenSpec.ofChange stampPlaysSpec)

/-- ITS FALSE NEIGHBOUR: 'it returns false'. Refute it at one input. -/
def stampPlaysWrong : ChangeSpec := { name := "stampPlays", fn := fun _ => fun
  | [d1, d2, d3] => { results := [.lit (.bool false)], args := [d1, d2, d3] }
  | _ => none }
def StampPlaysWrongFalsely : Prop := stampPlaysRow.holds Try.pinned (OpenSpec.ofChange stampPlaysWrong)

/-- 'clepsydralaw7.StampApart': WHATEVER THE INPUT: true; the input reads as it did. -/
def stampApartSpec : ChangeSpec := { name := "stampApart", fn := fun _ => fun
  | [d] => { results := [.lit (.bool true)], args := [d] }
  | _ => none }
def stampApartRow : OpenClaim := { program := "ytmfobogicdeokaa", sum := "42a6d2759d09a18c6df7792a10e6e130e2eb07ffaf8ed671a6d7f4313d863146", func := "clepsydra/clepsydralaw7.StampApart", spec := "stampApart", inPlace := ["sync/atomic.StoreUint64", "sync/atomic.LoadUint64", "sync/atomic.AddUint64"], apart := false }
def StampApartSaid : Prop := stampApartRow.holds Try.pinned (OpenSpec.ofChange stampApartSpec)

/-- ITS FALSE NEIGHBOUR: 'it returns false'. Refute it at one input. -/
def stampApartWrong : ChangeSpec := { name := "stampApart", fn := fun _ => fun
  | [d] => { results := [.lit (.bool false)], args := [d] }
  | _ => none }
def StampApartWrongFalsely : Prop := stampApartRow.holds Try.pinned (OpenSpec.ofChange stampApartWrong)

/-- 'clepsydralaw7.StampEnds': WHATEVER THE INPUT: true; the input reads as it did. -/
def stampEndsSpec : ChangeSpec := { name := "stampEnds", fn := fun _ => fun
  | [d1, d2, d3] => { results := [.lit (.bool true)], args := [d1, d2, d3] }
  | _ => none }
def stampEndsRow : OpenClaim := { program := "ytmfobogicdeokaa", sum := "42a6d2759d09a18c6df7792a10e6e130e2eb07ffaf8ed671a6d7f4313d863146", func := "clepsydra/clepsydralaw7.StampEnds", spec := "stampEnds", inPlace := ["sync/atomic.StoreUint64", "sync/atomic.LoadUint64", "sync/atomic.AddUint64"], apart := false }
def StampEndsSaid : Prop := stampEndsRow.holds Try.pinned (OpenSpec.ofChange stampEndsSpec)

/-- ITS FALSE NEIGHBOUR: 'it returns false'. Refute it at one input. -/
def stampEndsWrong : ChangeSpec := { name := "stampEnds", fn := fun _ => fun
  | [d1, d2, d3] => { results := [.lit (.bool false)], args := [d1, d2, d3] }
  | _ => none }
def StampEndsWrongFalsely : Prop := stampEndsRow.holds Try.pinned (OpenSpec.ofChange stampEndsWrong)

/-- 'clepsydralaw2.SumTells': WHATEVER THE INPUT: true; the input reads as it did. -/
def sumTellsSpec : ChangeSpec := { name := "sumTells", fn := fun _ => fun
  | [d1, d2, d3, d4] => { results := [.lit (.bool true)], args := [d1, d2, d3, d4] }
  | _ => none }
def sumTellsRow : OpenClaim := { program := "ytmfobogicdeokaa", sum := "42a6d2759d09a18c6df7792a10e6e130e2eb07ffaf8ed671a6d7f4313d863146", func := "clepsydra/clepsydralaw2.SumTells", spec := "sumTells", apart := false }
def SumTellsSaid : Prop := sumTellsRow.holds Try.pinned (OpenSpec.ofChange sumTellsSpec)

/-- ITS FALSE NEIGHBOUR: 'it returns false'. Refute it at one input. -/
def sumTellsWrong : ChangeSpec := { name := "sumTells", fn := fun _ => fun
  | [d1, d2, d3, d4] => { results := [.lit (.bool false)], args := [d1, d2, d3, d4] }
  | _ => none }
def SumTellsWrongFalsely : Prop := sumTellsRow.holds Try.pinned (OpenSpec.ofChange sumTellsWrong)

/- THE SECOND FORM. 'bulk': how many values and letters a reading holds, each counted each time it is reached (what is shared counts as often as it is met; a slice's spare places count too). A statement '..UptoSaid' is the law's where the arguments, and the package variables that the reading takes, are together of bulk at most 1048576: NARROWER than '..Said'. Prove '..Said' where nothing that the law and all that it calls make is longer than what came in: it says more and counts as full. Else prove '..UptoSaid'. A law counts once. -/
mutual
def uptoBulk {H : Type} : DataW H → Nat
  | .lit (.string bytes) => bytes.length + 1
  | .lit _ => 1
  | .nil => 1
  | .ptr d => uptoBulk d + 1
  | .slice elems spare => uptoBulkAll elems + uptoBulkAll spare + 1
  | .agg parts => uptoBulkAll parts + 1
  | .iface _ d => uptoBulk d + 1
  | .map entries => uptoBulkEntries entries + 1
  | .held _ => 1
def uptoBulkAll {H : Type} : List (DataW H) → Nat
  | [] => 0
  | d :: r => uptoBulk d + uptoBulkAll r
def uptoBulkEntries {H : Type} : List (Lit × DataW H) → Nat
  | [] => 0
  | x :: r => uptoBulkEntry x + uptoBulkEntries r
def uptoBulkEntry {H : Type} : Lit × DataW H → Nat
  | (.string bytes, d) => bytes.length + uptoBulk d + 1
  | (_, d) => uptoBulk d + 1
 end
def uptoSmall : (H : Type) → List (DataW H) → Bool := fun _ ds => decide (uptoBulkAll ds ≤ 1048576)
def OpenSpec.upto (s : _root_.Go.ChangeSpec) : _root_.Go.OpenSpec := { _root_.Go.OpenSpec.ofChange s with cond := some uptoSmall }

/-- 'clepsydralaw2.SumLast', WHERE WHAT IT READS IS OF BULK AT MOST 1048576: true; the input reads as it did. -/
def sumLastUptoRow : OpenClaim := { program := "ytmfobogicdeokaa", sum := "42a6d2759d09a18c6df7792a10e6e130e2eb07ffaf8ed671a6d7f4313d863146", func := "clepsydra/clepsydralaw2.SumLast", spec := "sumLast", apart := false, narrowed := true }
def SumLastUptoSaid : Prop := sumLastUptoRow.holds Try.pinned (OpenSpec.upto sumLastSpec)

/-- 'clepsydralaw2.SumRest', WHERE WHAT IT READS IS OF BULK AT MOST 1048576: true; the input reads as it did. -/
def sumRestUptoRow : OpenClaim := { program := "ytmfobogicdeokaa", sum := "42a6d2759d09a18c6df7792a10e6e130e2eb07ffaf8ed671a6d7f4313d863146", func := "clepsydra/clepsydralaw2.SumRest", spec := "sumRest", apart := false, narrowed := true }
def SumRestUptoSaid : Prop := sumRestUptoRow.holds Try.pinned (OpenSpec.upto sumRestSpec)

/-- 'clepsydralaw2.SumBits', WHERE WHAT IT READS IS OF BULK AT MOST 1048576: true; the input reads as it did. -/
def sumBitsUptoRow : OpenClaim := { program := "ytmfobogicdeokaa", sum := "42a6d2759d09a18c6df7792a10e6e130e2eb07ffaf8ed671a6d7f4313d863146", func := "clepsydra/clepsydralaw2.SumBits", spec := "sumBits", apart := false, narrowed := true }
def SumBitsUptoSaid : Prop := sumBitsUptoRow.holds Try.pinned (OpenSpec.upto sumBitsSpec)

/-- 'clepsydralaw2.SumBursts', WHERE WHAT IT READS IS OF BULK AT MOST 1048576: true; the input reads as it did. -/
def sumBurstsUptoRow : OpenClaim := { program := "ytmfobogicdeokaa", sum := "42a6d2759d09a18c6df7792a10e6e130e2eb07ffaf8ed671a6d7f4313d863146", func := "clepsydra/clepsydralaw2.SumBursts", spec := "sumBursts", apart := false, narrowed := true }
def SumBurstsUptoSaid : Prop := sumBurstsUptoRow.holds Try.pinned (OpenSpec.upto sumBurstsSpec)

/-- 'clepsydralaw2.SumParts', WHERE WHAT IT READS IS OF BULK AT MOST 1048576: true; the input reads as it did. -/
def sumPartsUptoRow : OpenClaim := { program := "ytmfobogicdeokaa", sum := "42a6d2759d09a18c6df7792a10e6e130e2eb07ffaf8ed671a6d7f4313d863146", func := "clepsydra/clepsydralaw2.SumParts", spec := "sumParts", apart := false, narrowed := true }
def SumPartsUptoSaid : Prop := sumPartsUptoRow.holds Try.pinned (OpenSpec.upto sumPartsSpec)

/-- 'clepsydralaw2.SumHashes', WHERE WHAT IT READS IS OF BULK AT MOST 1048576: true; the input reads as it did. -/
def sumHashesUptoRow : OpenClaim := { program := "ytmfobogicdeokaa", sum := "42a6d2759d09a18c6df7792a10e6e130e2eb07ffaf8ed671a6d7f4313d863146", func := "clepsydra/clepsydralaw2.SumHashes", spec := "sumHashes", apart := false, narrowed := true }
def SumHashesUptoSaid : Prop := sumHashesUptoRow.holds Try.pinned (OpenSpec.upto sumHashesSpec)

/-- 'clepsydralaw7.StampRestarts', WHERE WHAT IT READS IS OF BULK AT MOST 1048576: true; the input reads as it did. -/
def stampRestartsUptoRow : OpenClaim := { program := "ytmfobogicdeokaa", sum := "42a6d2759d09a18c6df7792a10e6e130e2eb07ffaf8ed671a6d7f4313d863146", func := "clepsydra/clepsydralaw7.StampRestarts", spec := "stampRestarts", inPlace := ["sync/atomic.StoreUint64", "sync/atomic.LoadUint64", "sync/atomic.AddUint64"], apart := false, narrowed := true }
def StampRestartsUptoSaid : Prop := stampRestartsUptoRow.holds Try.pinned (OpenSpec.upto stampRestartsSpec)

/-- 'clepsydralaw7.StampMakes', WHERE WHAT IT READS IS OF BULK AT MOST 1048576: true; the input reads as it did. -/
def stampMakesUptoRow : OpenClaim := { program := "ytmfobogicdeokaa", sum := "42a6d2759d09a18c6df7792a10e6e130e2eb07ffaf8ed671a6d7f4313d863146", func := "clepsydra/clepsydralaw7.StampMakes", spec := "stampMakes", inPlace := ["sync/atomic.StoreUint64", "sync/atomic.LoadUint64", "sync/atomic.AddUint64"], apart := false, narrowed := true }
def StampMakesUptoSaid : Prop := stampMakesUptoRow.holds Try.pinned (OpenSpec.upto stampMakesSpec)

/-- 'clepsydralaw7.StampPlays', WHERE WHAT IT READS IS OF BULK AT MOST 1048576: true; the input reads as it did. -/
def stampPlaysUptoRow : OpenClaim := { program := "ytmfobogicdeokaa", sum := "42a6d2759d09a18c6df7792a10e6e130e2eb07ffaf8ed671a6d7f4313d863146", func := "clepsydra/clepsydralaw7.StampPlays", spec := "stampPlays", inPlace := ["sync/atomic.StoreUint64", "sync/atomic.LoadUint64", "sync/atomic.AddUint64"], apart := false, narrowed := true }
def StampPlaysUptoSaid : Prop := stampPlaysUptoRow.holds Try.pinned (OpenSpec.upto stampPlaysSpec)

/-- 'clepsydralaw7.StampApart', WHERE WHAT IT READS IS OF BULK AT MOST 1048576: true; the input reads as it did. -/
def stampApartUptoRow : OpenClaim := { program := "ytmfobogicdeokaa", sum := "42a6d2759d09a18c6df7792a10e6e130e2eb07ffaf8ed671a6d7f4313d863146", func := "clepsydra/clepsydralaw7.StampApart", spec := "stampApart", inPlace := ["sync/atomic.StoreUint64", "sync/atomic.LoadUint64", "sync/atomic.AddUint64"], apart := false, narrowed := true }
def StampApartUptoSaid : Prop := stampApartUptoRow.holds Try.pinned (OpenSpec.upto stampApartSpec)

/-- 'clepsydralaw7.StampEnds', WHERE WHAT IT READS IS OF BULK AT MOST 1048576: true; the input reads as it did. -/
def stampEndsUptoRow : OpenClaim := { program := "ytmfobogicdeokaa", sum := "42a6d2759d09a18c6df7792a10e6e130e2eb07ffaf8ed671a6d7f4313d863146", func := "clepsydra/clepsydralaw7.StampEnds", spec := "stampEnds", inPlace := ["sync/atomic.StoreUint64", "sync/atomic.LoadUint64", "sync/atomic.AddUint64"], apart := false, narrowed := true }
def StampEndsUptoSaid : Prop := stampEndsUptoRow.holds Try.pinned (OpenSpec.upto stampEndsSpec)

/-- 'clepsydralaw2.SumTells', WHERE WHAT IT READS IS OF BULK AT MOST 1048576: true; the input reads as it did. -/
def sumTellsUptoRow : OpenClaim := { program := "ytmfobogicdeokaa", sum := "42a6d2759d09a18c6df7792a10e6e130e2eb07ffaf8ed671a6d7f4313d863146", func := "clepsydra/clepsydralaw2.SumTells", spec := "sumTells", apart := false, narrowed := true }
def SumTellsUptoSaid : Prop := sumTellsUptoRow.holds Try.pinned (OpenSpec.upto sumTellsSpec)

end Rows
end Go.Proofs.Ytmfobogicdeokaa
