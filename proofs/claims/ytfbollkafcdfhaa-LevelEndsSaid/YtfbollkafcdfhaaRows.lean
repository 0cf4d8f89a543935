/-
  No cell of these rows narrows 'for every input' (looked for: loops, veiled, ifaces, maps, wideKeys, modest, calm, conditions, laid).
  DERIVED. THE GIVEN ROWS OF THIS SEAT. 6 by the template 'for every input the law returns true; each argument reads behind the call as it read before'; 0 by the template 'total and deterministic' (their statements: YtfbollkafcdfhaaTotals.lean).
  GIVEN WITH THE SEED: the statements are not yours to turn. If you find one false, say at which input.
  Laid BY PROGRAM, IN A SANDBOX (cutbox-rows.mjs): the forced cells as the released guide's own fill.sh prints them over the translation e31ef049d5cb1fe1… (all of the seat's roots in one cut). By AI agents, Wed Nov 11 2026. No macro, syntax, notation, axiom, sorry.
-/
import Derived.Test.YtfbollkafcdfhaaChecked
import GoSem.Claim
import GoSem.ClaimJoined
import GoSem.ClaimMapViews
import Derived.JoinedTies
import Derived.KernelRfl
namespace Go.Proofs.Ytfbollkafcdfhaa
/- THE CELL 'sum', in the pinned program and in every row, IS THE sha256 OF THE DUMP (.gsa) THAT YtfbollkafcdfhaaProg.lean LOADS. Nothing in Lean hashes anything: it is a label: what it is worth is what the hold of that sum in a sandbox is worth. -/
noncomputable def Try.pinned : Pinned := { name := "ytfbollkafcdfhaa", sum := "e31ef049d5cb1fe1586e4f3041a1a89cb93e36a0ce6a19f53eea48931611963e", checked := Try.checked }
namespace Rows
def none {H : Type} : Left H := { results := [], args := [] }

/-- 'clepsydralaw17.LevelPicks': WHATEVER THE INPUT: true; the input reads as it did. -/
def levelPicksSpec : ChangeSpec := { name := "levelPicks", fn := fun _ => fun
  | [d] => { results := [.lit (.bool true)], args := [d] }
  | _ => none }
def levelPicksRow : OpenClaim := { program := "ytfbollkafcdfhaa", sum := "e31ef049d5cb1fe1586e4f3041a1a89cb93e36a0ce6a19f53eea48931611963e", func := "clepsydra/clepsydralaw17.LevelPicks", spec := "levelPicks", inPlace := ["internal/bytealg.Compare"], unfollowed := true, recurses := true, apart := false }
def LevelPicksSaid : Prop := levelPicksRow.holds Try.pinned (OpenSpec.ofChange levelPicksSpec)

/-- ITS FALSE NEIGHBOUR: 'it returns false'. Refute it at one input. -/
def levelPicksWrong : ChangeSpec := { name := "levelPicks", fn := fun _ => fun
  | [d] => { results := [.lit (.bool false)], args := [d] }
  | _ => none }
def LevelPicksWrongFalsely : Prop := levelPicksRow.holds Try.pinned (OpenSpec.ofChange levelPicksWrong)

/-- 'clepsydralaw17.LevelOver': WHATEVER THE INPUT: true; the input reads as it did. -/
def levelOverSpec : ChangeSpec := { name := "levelOver", fn := fun _ => fun
  | [d1, d2, d3, d4, d5] => { results := [.lit (.bool true)], args := [d1, d2, d3, d4, d5] }
  | _ => none }
def levelOverRow : OpenClaim := { program := "ytfbollkafcdfhaa", sum := "e31ef049d5cb1fe1586e4f3041a1a89cb93e36a0ce6a19f53eea48931611963e", func := "clepsydra/clepsydralaw17.LevelOver", spec := "levelOver", inPlace := ["internal/bytealg.Compare"], unfollowed := true, recurses := true, apart := false }
def LevelOverSaid : Prop := levelOverRow.holds Try.pinned (OpenSpec.ofChange levelOverSpec)

/-- ITS FALSE NEIGHBOUR: 'it returns false'. Refute it at one input. -/
def levelOverWrong : ChangeSpec := { name := "levelOver", fn := fun _ => fun
  | [d1, d2, d3, d4, d5] => { results := [.lit (.bool false)], args := [d1, d2, d3, d4, d5] }
  | _ => none }
def LevelOverWrongFalsely : Prop := levelOverRow.holds Try.pinned (OpenSpec.ofChange levelOverWrong)

/-- 'clepsydralaw17.LevelTells': WHATEVER THE INPUT: true; the input reads as it did. -/
def levelTellsSpec : ChangeSpec := { name := "levelTells", fn := fun _ => fun
  | [d] => { results := [.lit (.bool true)], args := [d] }
  | _ => none }
def levelTellsRow : OpenClaim := { program := "ytfbollkafcdfhaa", sum := "e31ef049d5cb1fe1586e4f3041a1a89cb93e36a0ce6a19f53eea48931611963e", func := "clepsydra/clepsydralaw17.LevelTells", spec := "levelTells", inPlace := ["internal/bytealg.Compare"], unfollowed := true, recurses := true, apart := false }
def LevelTellsSaid : Prop := levelTellsRow.holds Try.pinned (OpenSpec.ofChange levelTellsSpec)

/-- ITS FALSE NEIGHBOUR: 'it returns false'. Refute it at one input. -/
def levelTellsWrong : ChangeSpec := { name := "levelTells", fn := fun _ => fun
  | [d] => { results := [.lit (.bool false)], args := [d] }
  | _ => none }
def LevelTellsWrongFalsely : Prop := levelTellsRow.holds Try.pinned (OpenSpec.ofChange levelTellsWrong)

/-- 'clepsydralaw17.LevelTouch': WHATEVER THE INPUT: true; the input reads as it did. -/
def levelTouchSpec : ChangeSpec := { name := "levelTouch", fn := fun _ => fun
  | [d1, d2, d3, d4] => { results := [.lit (.bool true)], args := [d1, d2, d3, d4] }
  | _ => none }
def levelTouchRow : OpenClaim := { program := "ytfbollkafcdfhaa", sum := "e31ef049d5cb1fe1586e4f3041a1a89cb93e36a0ce6a19f53eea48931611963e", func := "clepsydra/clepsydralaw17.LevelTouch", spec := "levelTouch", inPlace := ["internal/bytealg.Compare"], unfollowed := true, recurses := true, apart := false }
def LevelTouchSaid : Prop := levelTouchRow.holds Try.pinned (OpenSpec.ofChange levelTouchSpec)

/-- ITS FALSE NEIGHBOUR: 'it returns false'. Refute it at one input. -/
def levelTouchWrong : ChangeSpec := { name := "levelTouch", fn := fun _ => fun
  | [d1, d2, d3, d4] => { results := [.lit (.bool false)], args := [d1, d2, d3, d4] }
  | _ => none }
def LevelTouchWrongFalsely : Prop := levelTouchRow.holds Try.pinned (OpenSpec.ofChange levelTouchWrong)

/-- 'clepsydralaw17.LevelAfter': WHATEVER THE INPUT: true; the input reads as it did. -/
def levelAfterSpec : ChangeSpec := { name := "levelAfter", fn := fun _ => fun
  | [d1, d2, d3, d4] => { results := [.lit (.bool true)], args := [d1, d2, d3, d4] }
  | _ => none }
def levelAfterRow : OpenClaim := { program := "ytfbollkafcdfhaa", sum := "e31ef049d5cb1fe1586e4f3041a1a89cb93e36a0ce6a19f53eea48931611963e", func := "clepsydra/clepsydralaw17.LevelAfter", spec := "levelAfter", inPlace := ["internal/bytealg.Compare"], unfollowed := true, recurses := true, apart := false }
def LevelAfterSaid : Prop := levelAfterRow.holds Try.pinned (OpenSpec.ofChange levelAfterSpec)

/-- ITS FALSE NEIGHBOUR: 'it returns false'. Refute it at one input. -/
def levelAfterWrong : ChangeSpec := { name := "levelAfter", fn := fun _ => fun
  | [d1, d2, d3, d4] => { results := [.lit (.bool false)], args := [d1, d2, d3, d4] }
  | _ => none }
def LevelAfterWrongFalsely : Prop := levelAfterRow.holds Try.pinned (OpenSpec.ofChange levelAfterWrong)

/-- 'clepsydralaw17.LevelEnds': WHATEVER THE INPUT: true; the input reads as it did. -/
def levelEndsSpec : ChangeSpec := { name := "levelEnds", fn := fun _ => fun
  | [d] => { results := [.lit (.bool true)], args := [d] }
  | _ => none }
def levelEndsRow : OpenClaim := { program := "ytfbollkafcdfhaa", sum := "e31ef049d5cb1fe1586e4f3041a1a89cb93e36a0ce6a19f53eea48931611963e", func := "clepsydra/clepsydralaw17.LevelEnds", spec := "levelEnds", inPlace := ["internal/bytealg.Compare"], unfollowed := true, recurses := true, apart := false }
def LevelEndsSaid : Prop := levelEndsRow.holds Try.pinned (OpenSpec.ofChange levelEndsSpec)

/-- ITS FALSE NEIGHBOUR: 'it returns false'. Refute it at one input. -/
def levelEndsWrong : ChangeSpec := { name := "levelEnds", fn := fun _ => fun
  | [d] => { results := [.lit (.bool false)], args := [d] }
  | _ => none }
def LevelEndsWrongFalsely : Prop := levelEndsRow.holds Try.pinned (OpenSpec.ofChange levelEndsWrong)

/- THE SECOND FORM. 'bulk': how many values and letters a reading holds, each counted each time it is reached (what is shared counts as often as it is met; a slice's spare places count too). A statement '..UptoSaid' is the law's where the arguments, and the package variables that the reading takes, are together of bulk at most 1048576: NARROWER than '..Said'. Prove '..Said' where nothing that the law and all that it calls make is longer than what came in: it says more and counts as full. Else prove '..UptoSaid'. A law counts once. -/
mutual
def uptoBulk {H : Type} : DataW H → Nat
  | .lit (.string bytes) => bytes.length + 1
  | .lit _ => 1
  | .nil => 1
  | .ptr d => uptoBulk d + 1
  | .slice elems spare => uptoBulkAll elems + uptoBulkAll spare + 1
  | .agg parts => uptoBulkAll parts + 1
  | .iface _ d => uptoBulk d + 1
  | .map entries => uptoBulkEntries entries + 1
  | .held _ => 1
def uptoBulkAll {H : Type} : List (DataW H) → Nat
  | [] => 0
  | d :: r => uptoBulk d + uptoBulkAll r
def uptoBulkEntries {H : Type} : List (Lit × DataW H) → Nat
  | [] => 0
  | x :: r => uptoBulkEntry x + uptoBulkEntries r
def uptoBulkEntry {H : Type} : Lit × DataW H → Nat
  | (.string bytes, d) => bytes.length + uptoBulk d + 1
  | (_, d) => uptoBulk d + 1
 end
def uptoSmall : (H : Type) → List (DataW H) → Bool := fun _ ds => decide (uptoBulkAll ds ≤ 1048576)
def OpenSpec.upto (s : _root_.Go.ChangeSpec) : _root_.Go.OpenSpec := { _root_.Go.OpenSpec.ofChange s with cond := some uptoSmall }

/-- 'clepsydralaw17.LevelPicks', WHERE WHAT IT READS IS OF BULK AT MOST 1048576: true; the input reads as it did. -/
def levelPicksUptoRow : OpenClaim := { program := "ytfbollkafcdfhaa", sum := "e31ef049d5cb1fe1586e4f3041a1a89cb93e36a0ce6a19f53eea48931611963e", func := "clepsydra/clepsydralaw17.LevelPicks", spec := "levelPicks", inPlace := ["internal/bytealg.Compare"], unfollowed := true, recurses := true, apart := false, narrowed := true }
def LevelPicksUptoSaid : Prop := levelPicksUptoRow.holds Try.pinned (OpenSpec.upto levelPicksSpec)

/-- 'clepsydralaw17.LevelOver', WHERE WHAT IT READS IS OF BULK AT MOST 1048576: true; the input reads as it did. -/
def levelOverUptoRow : OpenClaim := { program := "ytfbollkafcdfhaa", sum := "e31ef049d5cb1fe1586e4f3041a1a89cb93e36a0ce6a19f53eea48931611963e", func := "clepsydra/clepsydralaw17.LevelOver", spec := "levelOver", inPlace := ["internal/bytealg.Compare"], unfollowed := true, recurses := true, apart := false, narrowed := true }
def LevelOverUptoSaid : Prop := levelOverUptoRow.holds Try.pinned (OpenSpec.upto levelOverSpec)

/-- 'clepsydralaw17.LevelTells', WHERE WHAT IT READS IS OF BULK AT MOST 1048576: true; the input reads as it did. -/
def levelTellsUptoRow : OpenClaim := { program := "ytfbollkafcdfhaa", sum := "e31ef049d5cb1fe1586e4f3041a1a89cb93e36a0ce6a19f53eea48931611963e", func := "clepsydra/clepsydralaw17.LevelTells", spec := "levelTells", inPlace := ["internal/bytealg.Compare"], unfollowed := true, recurses := true, apart := false, narrowed := true }
def LevelTellsUptoSaid : Prop := levelTellsUptoRow.holds Try.pinned (OpenSpec.upto levelTellsSpec)

/-- 'clepsydralaw17.LevelTouch', WHERE WHAT IT READS IS OF BULK AT MOST 1048576: true; the input reads as it did. -/
def levelTouchUptoRow : OpenClaim := { program := "ytfbollkafcdfhaa", sum := "e31ef049d5cb1fe1586e4f3041a1a89cb93e36a0ce6a19f53eea48931611963e", func := "clepsydra/clepsydralaw17.LevelTouch", spec := "levelTouch", inPlace := ["internal/bytealg.Compare"], unfollowed := true, recurses := true, apart := false, narrowed := true }
def LevelTouchUptoSaid : Prop := levelTouchUptoRow.holds Try.pinned (OpenSpec.upto levelTouchSpec)

/-- 'clepsydralaw17.LevelAfter', WHERE WHAT IT READS IS OF BULK AT MOST 1048576: true; the input reads as it did. -/
def levelAfterUptoRow : OpenClaim := { program := "ytfbollkafcdfhaa", sum := "e31ef049d5cb1fe1586e4f3041a1a89cb93e36a0ce6a19f53eea48931611963e", func := "clepsydra/clepsydralaw17.LevelAfter", spec := "levelAfter", inPlace := ["internal/bytealg.Compare"], unfollowed := true, recurses := true, apart := false, narrowed := true }
def LevelAfterUptoSaid : Prop := levelAfterUptoRow.holds Try.pinned (OpenSpec.upto levelAfterSpec)

/-- 'clepsydralaw17.LevelEnds', WHERE WHAT IT READS IS OF BULK AT MOST 1048576: true; the input reads as it did. -/
def levelEndsUptoRow : OpenClaim := { program := "ytfbollkafcdfhaa", sum := "e31ef049d5cb1fe1586e4f3041a1a89cb93e36a0ce6a19f53eea48931611963e", func := "clepsydra/clepsydralaw17.LevelEnds", spec := "levelEnds", inPlace := ["internal/bytealg.Compare"], unfollowed := true, recurses := true, apart := false, narrowed := true }
def LevelEndsUptoSaid : Prop := levelEndsUptoRow.holds Try.pinned (OpenSpec.upto levelEndsSpec)

end Rows
end Go.Proofs.Ytfbollkafcdfhaa
