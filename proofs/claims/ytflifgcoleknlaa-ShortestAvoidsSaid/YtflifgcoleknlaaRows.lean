/-
  No cell of these rows narrows 'for every input' (looked for: loops, veiled, ifaces, maps, wideKeys, modest, calm, conditions, laid).
  DERIVED. THE GIVEN ROWS OF THIS SEAT. 9 by the template 'for every input the law returns true; each argument reads behind the call as it read before'; 0 by the template 'total and deterministic' (their statements: YtflifgcoleknlaaTotals.lean).
  GIVEN WITH THE SEED: the statements are not yours to turn. If you find one false, say at which input.
  Laid BY PROGRAM, IN A SANDBOX (cutbox-rows.mjs): the forced cells as the released guide's own fill.sh prints them over the translation dbb8c16ae5a93b3d… (all of the seat's roots in one cut). By AI agents, Wed Nov 11 2026. No macro, syntax, notation, axiom, sorry.
-/
import Derived.Test.YtflifgcoleknlaaChecked
import GoSem.Claim
import GoSem.ClaimJoined
import GoSem.ClaimMapViews
import Derived.JoinedTies
import Derived.KernelRfl
namespace Go.Proofs.Ytflifgcoleknlaa
/- THE CELL 'sum', in the pinned program and in every row, IS THE sha256 OF THE DUMP (.gsa) THAT YtflifgcoleknlaaProg.lean LOADS. Nothing in Lean hashes anything: it is a label: what it is worth is what the hold of that sum in a sandbox is worth. -/
noncomputable def Try.pinned : Pinned := { name := "ytflifgcoleknlaa", sum := "dbb8c16ae5a93b3dca7f9daeb9a182b043affb62b3e884262136b35204e6d9a8", checked := Try.checked }
namespace Rows
def none {H : Type} : Left H := { results := [], args := [] }

/-- 'bitcastlaw06.ShortestSteps': WHATEVER THE INPUT: true; the input reads as it did. -/
def shortestStepsSpec : ChangeSpec := { name := "shortestSteps", fn := fun _ => fun
  | [d1, d2, d3] => { results := [.lit (.bool true)], args := [d1, d2, d3] }
  | _ => none }
def shortestStepsRow : OpenClaim := { program := "ytflifgcoleknlaa", sum := "dbb8c16ae5a93b3dca7f9daeb9a182b043affb62b3e884262136b35204e6d9a8", func := "bitcast/bitcastlaw06.ShortestSteps", spec := "shortestSteps", unfollowed := true, recurses := true, apart := false }
def ShortestStepsSaid : Prop := shortestStepsRow.holds Try.pinned (OpenSpec.ofChange shortestStepsSpec)

/-- ITS FALSE NEIGHBOUR: 'it returns false'. Refute it at one input. -/
def shortestStepsWrong : ChangeSpec := { name := "shortestSteps", fn := fun _ => fun
  | [d1, d2, d3] => { results := [.lit (.bool false)], args := [d1, d2, d3] }
  | _ => none }
def ShortestStepsWrongFalsely : Prop := shortestStepsRow.holds Try.pinned (OpenSpec.ofChange shortestStepsWrong)

/-- 'bitcastlaw06.ShortestUses': WHATEVER THE INPUT: true; the input reads as it did. -/
def shortestUsesSpec : ChangeSpec := { name := "shortestUses", fn := fun _ => fun
  | [d1, d2, d3, d4, d5] => { results := [.lit (.bool true)], args := [d1, d2, d3, d4, d5] }
  | _ => none }
def shortestUsesRow : OpenClaim := { program := "ytflifgcoleknlaa", sum := "dbb8c16ae5a93b3dca7f9daeb9a182b043affb62b3e884262136b35204e6d9a8", func := "bitcast/bitcastlaw06.ShortestUses", spec := "shortestUses", unfollowed := true, recurses := true, apart := false }
def ShortestUsesSaid : Prop := shortestUsesRow.holds Try.pinned (OpenSpec.ofChange shortestUsesSpec)

/-- ITS FALSE NEIGHBOUR: 'it returns false'. Refute it at one input. -/
def shortestUsesWrong : ChangeSpec := { name := "shortestUses", fn := fun _ => fun
  | [d1, d2, d3, d4, d5] => { results := [.lit (.bool false)], args := [d1, d2, d3, d4, d5] }
  | _ => none }
def ShortestUsesWrongFalsely : Prop := shortestUsesRow.holds Try.pinned (OpenSpec.ofChange shortestUsesWrong)

/-- 'bitcastlaw06.ShortestCounts': WHATEVER THE INPUT: true; the input reads as it did. -/
def shortestCountsSpec : ChangeSpec := { name := "shortestCounts", fn := fun _ => fun
  | [d] => { results := [.lit (.bool true)], args := [d] }
  | _ => none }
def shortestCountsRow : OpenClaim := { program := "ytflifgcoleknlaa", sum := "dbb8c16ae5a93b3dca7f9daeb9a182b043affb62b3e884262136b35204e6d9a8", func := "bitcast/bitcastlaw06.ShortestCounts", spec := "shortestCounts", unfollowed := true, recurses := true, apart := false }
def ShortestCountsSaid : Prop := shortestCountsRow.holds Try.pinned (OpenSpec.ofChange shortestCountsSpec)

/-- ITS FALSE NEIGHBOUR: 'it returns false'. Refute it at one input. -/
def shortestCountsWrong : ChangeSpec := { name := "shortestCounts", fn := fun _ => fun
  | [d] => { results := [.lit (.bool false)], args := [d] }
  | _ => none }
def ShortestCountsWrongFalsely : Prop := shortestCountsRow.holds Try.pinned (OpenSpec.ofChange shortestCountsWrong)

/-- 'bitcastlaw06.ShortestTriangles': WHATEVER THE INPUT: true; the input reads as it did. -/
def shortestTrianglesSpec : ChangeSpec := { name := "shortestTriangles", fn := fun _ => fun
  | [d] => { results := [.lit (.bool true)], args := [d] }
  | _ => none }
def shortestTrianglesRow : OpenClaim := { program := "ytflifgcoleknlaa", sum := "dbb8c16ae5a93b3dca7f9daeb9a182b043affb62b3e884262136b35204e6d9a8", func := "bitcast/bitcastlaw06.ShortestTriangles", spec := "shortestTriangles", unfollowed := true, recurses := true, apart := false }
def ShortestTrianglesSaid : Prop := shortestTrianglesRow.holds Try.pinned (OpenSpec.ofChange shortestTrianglesSpec)

/-- ITS FALSE NEIGHBOUR: 'it returns false'. Refute it at one input. -/
def shortestTrianglesWrong : ChangeSpec := { name := "shortestTriangles", fn := fun _ => fun
  | [d] => { results := [.lit (.bool false)], args := [d] }
  | _ => none }
def ShortestTrianglesWrongFalsely : Prop := shortestTrianglesRow.holds Try.pinned (OpenSpec.ofChange shortestTrianglesWrong)

/-- 'bitcastlaw06.ShortestRoutes': WHATEVER THE INPUT: true; the input reads as it did. -/
def shortestRoutesSpec : ChangeSpec := { name := "shortestRoutes", fn := fun _ => fun
  | [d] => { results := [.lit (.bool true)], args := [d] }
  | _ => none }
def shortestRoutesRow : OpenClaim := { program := "ytflifgcoleknlaa", sum := "dbb8c16ae5a93b3dca7f9daeb9a182b043affb62b3e884262136b35204e6d9a8", func := "bitcast/bitcastlaw06.ShortestRoutes", spec := "shortestRoutes", unfollowed := true, recurses := true, apart := false }
def ShortestRoutesSaid : Prop := shortestRoutesRow.holds Try.pinned (OpenSpec.ofChange shortestRoutesSpec)

/-- ITS FALSE NEIGHBOUR: 'it returns false'. Refute it at one input. -/
def shortestRoutesWrong : ChangeSpec := { name := "shortestRoutes", fn := fun _ => fun
  | [d] => { results := [.lit (.bool false)], args := [d] }
  | _ => none }
def ShortestRoutesWrongFalsely : Prop := shortestRoutesRow.holds Try.pinned (OpenSpec.ofChange shortestRoutesWrong)

/-- 'bitcastlaw06.ShortestNexts': WHATEVER THE INPUT: true; the input reads as it did. -/
def shortestNextsSpec : ChangeSpec := { name := "shortestNexts", fn := fun _ => fun
  | [d] => { results := [.lit (.bool true)], args := [d] }
  | _ => none }
def shortestNextsRow : OpenClaim := { program := "ytflifgcoleknlaa", sum := "dbb8c16ae5a93b3dca7f9daeb9a182b043affb62b3e884262136b35204e6d9a8", func := "bitcast/bitcastlaw06.ShortestNexts", spec := "shortestNexts", unfollowed := true, recurses := true, apart := false }
def ShortestNextsSaid : Prop := shortestNextsRow.holds Try.pinned (OpenSpec.ofChange shortestNextsSpec)

/-- ITS FALSE NEIGHBOUR: 'it returns false'. Refute it at one input. -/
def shortestNextsWrong : ChangeSpec := { name := "shortestNexts", fn := fun _ => fun
  | [d] => { results := [.lit (.bool false)], args := [d] }
  | _ => none }
def ShortestNextsWrongFalsely : Prop := shortestNextsRow.holds Try.pinned (OpenSpec.ofChange shortestNextsWrong)

/-- 'bitcastlaw06.ShortestAvoids': WHATEVER THE INPUT: true; the input reads as it did. -/
def shortestAvoidsSpec : ChangeSpec := { name := "shortestAvoids", fn := fun _ => fun
  | [d] => { results := [.lit (.bool true)], args := [d] }
  | _ => none }
def shortestAvoidsRow : OpenClaim := { program := "ytflifgcoleknlaa", sum := "dbb8c16ae5a93b3dca7f9daeb9a182b043affb62b3e884262136b35204e6d9a8", func := "bitcast/bitcastlaw06.ShortestAvoids", spec := "shortestAvoids", unfollowed := true, recurses := true, apart := false }
def ShortestAvoidsSaid : Prop := shortestAvoidsRow.holds Try.pinned (OpenSpec.ofChange shortestAvoidsSpec)

/-- ITS FALSE NEIGHBOUR: 'it returns false'. Refute it at one input. -/
def shortestAvoidsWrong : ChangeSpec := { name := "shortestAvoids", fn := fun _ => fun
  | [d] => { results := [.lit (.bool false)], args := [d] }
  | _ => none }
def ShortestAvoidsWrongFalsely : Prop := shortestAvoidsRow.holds Try.pinned (OpenSpec.ofChange shortestAvoidsWrong)

/-- 'bitcastlaw06.ShortestUnique': WHATEVER THE INPUT: true; the input reads as it did. -/
def shortestUniqueSpec : ChangeSpec := { name := "shortestUnique", fn := fun _ => fun
  | [d] => { results := [.lit (.bool true)], args := [d] }
  | _ => none }
def shortestUniqueRow : OpenClaim := { program := "ytflifgcoleknlaa", sum := "dbb8c16ae5a93b3dca7f9daeb9a182b043affb62b3e884262136b35204e6d9a8", func := "bitcast/bitcastlaw06.ShortestUnique", spec := "shortestUnique", unfollowed := true, recurses := true, apart := false }
def ShortestUniqueSaid : Prop := shortestUniqueRow.holds Try.pinned (OpenSpec.ofChange shortestUniqueSpec)

/-- ITS FALSE NEIGHBOUR: 'it returns false'. Refute it at one input. -/
def shortestUniqueWrong : ChangeSpec := { name := "shortestUnique", fn := fun _ => fun
  | [d] => { results := [.lit (.bool false)], args := [d] }
  | _ => none }
def ShortestUniqueWrongFalsely : Prop := shortestUniqueRow.holds Try.pinned (OpenSpec.ofChange shortestUniqueWrong)

/-- 'bitcastlaw06.ShortestCosts': WHATEVER THE INPUT: true; the input reads as it did. -/
def shortestCostsSpec : ChangeSpec := { name := "shortestCosts", fn := fun _ => fun
  | [d1, d2, d3] => { results := [.lit (.bool true)], args := [d1, d2, d3] }
  | _ => none }
def shortestCostsRow : OpenClaim := { program := "ytflifgcoleknlaa", sum := "dbb8c16ae5a93b3dca7f9daeb9a182b043affb62b3e884262136b35204e6d9a8", func := "bitcast/bitcastlaw06.ShortestCosts", spec := "shortestCosts", unfollowed := true, recurses := true, apart := false }
def ShortestCostsSaid : Prop := shortestCostsRow.holds Try.pinned (OpenSpec.ofChange shortestCostsSpec)

/-- ITS FALSE NEIGHBOUR: 'it returns false'. Refute it at one input. -/
def shortestCostsWrong : ChangeSpec := { name := "shortestCosts", fn := fun _ => fun
  | [d1, d2, d3] => { results := [.lit (.bool false)], args := [d1, d2, d3] }
  | _ => none }
def ShortestCostsWrongFalsely : Prop := shortestCostsRow.holds Try.pinned (OpenSpec.ofChange shortestCostsWrong)

/- THE SECOND FORM. 'bulk': how many values and letters a reading holds, each counted each time it is reached (what is shared counts as often as it is met; a slice's spare places count too). A statement '..UptoSaid' is the law's where the arguments, and the package variables that the reading takes, are together of bulk at most 1048576: NARROWER than '..Said'. Prove '..Said' where nothing that the law and all that it calls make is longer than what came in: it says more and counts as full. Else prove '..UptoSaid'. A law counts once. -/
mutual
def uptoBulk {H : Type} : DataW H → Nat
  | .lit (.string bytes) => bytes.length + 1
  | .lit _ => 1
  | .nil => 1
  | .ptr d => uptoBulk d + 1
  | .slice elems spare => uptoBulkAll elems + uptoBulkAll spare + 1
  | .agg parts => uptoBulkAll parts + 1
  | .iface _ d => uptoBulk d + 1
  | .map entries => uptoBulkEntries entries + 1
  | .held _ => 1
def uptoBulkAll {H : Type} : List (DataW H) → Nat
  | [] => 0
  | d :: r => uptoBulk d + uptoBulkAll r
def uptoBulkEntries {H : Type} : List (Lit × DataW H) → Nat
  | [] => 0
  | x :: r => uptoBulkEntry x + uptoBulkEntries r
def uptoBulkEntry {H : Type} : Lit × DataW H → Nat
  | (.string bytes, d) => bytes.length + uptoBulk d + 1
  | (_, d) => uptoBulk d + 1
 end
def uptoSmall : (H : Type) → List (DataW H) → Bool := fun _ ds => decide (uptoBulkAll ds ≤ 1048576)
def OpenSpec.upto (s : _root_.Go.ChangeSpec) : _root_.Go.OpenSpec := { _root_.Go.OpenSpec.ofChange s with cond := some uptoSmall }

/-- 'bitcastlaw06.ShortestSteps', WHERE WHAT IT READS IS OF BULK AT MOST 1048576: true; the input reads as it did. -/
def shortestStepsUptoRow : OpenClaim := { program := "ytflifgcoleknlaa", sum := "dbb8c16ae5a93b3dca7f9daeb9a182b043affb62b3e884262136b35204e6d9a8", func := "bitcast/bitcastlaw06.ShortestSteps", spec := "shortestSteps", unfollowed := true, recurses := true, apart := false, narrowed := true }
def ShortestStepsUptoSaid : Prop := shortestStepsUptoRow.holds Try.pinned (OpenSpec.upto shortestStepsSpec)

/-- 'bitcastlaw06.ShortestUses', WHERE WHAT IT READS IS OF BULK AT MOST 1048576: true; the input reads as it did. -/
def shortestUsesUptoRow : OpenClaim := { program := "ytflifgcoleknlaa", sum := "dbb8c16ae5a93b3dca7f9daeb9a182b043affb62b3e884262136b35204e6d9a8", func := "bitcast/bitcastlaw06.ShortestUses", spec := "shortestUses", unfollowed := true, recurses := true, apart := false, narrowed := true }
def ShortestUsesUptoSaid : Prop := shortestUsesUptoRow.holds Try.pinned (OpenSpec.upto shortestUsesSpec)

/-- 'bitcastlaw06.ShortestCounts', WHERE WHAT IT READS IS OF BULK AT MOST 1048576: true; the input reads as it did. -/
def shortestCountsUptoRow : OpenClaim := { program := "ytflifgcoleknlaa", sum := "dbb8c16ae5a93b3dca7f9daeb9a182b043affb62b3e884262136b35204e6d9a8", func := "bitcast/bitcastlaw06.ShortestCounts", spec := "shortestCounts", unfollowed := true, recurses := true, apart := false, narrowed := true }
def ShortestCountsUptoSaid : Prop := shortestCountsUptoRow.holds Try.pinned (OpenSpec.upto shortestCountsSpec)

/-- 'bitcastlaw06.ShortestTriangles', WHERE WHAT IT READS IS OF BULK AT MOST 1048576: true; the input reads as it did. -/
def shortestTrianglesUptoRow : OpenClaim := { program := "ytflifgcoleknlaa", sum := "dbb8c16ae5a93b3dca7f9daeb9a182b043affb62b3e884262136b35204e6d9a8", func := "bitcast/bitcastlaw06.ShortestTriangles", spec := "shortestTriangles", unfollowed := true, recurses := true, apart := false, narrowed := true }
def ShortestTrianglesUptoSaid : Prop := shortestTrianglesUptoRow.holds Try.pinned (OpenSpec.upto shortestTrianglesSpec)

/-- 'bitcastlaw06.ShortestRoutes', WHERE WHAT IT READS IS OF BULK AT MOST 1048576: true; the input reads as it did. -/
def shortestRoutesUptoRow : OpenClaim := { program := "ytflifgcoleknlaa", sum := "dbb8c16ae5a93b3dca7f9daeb9a182b043affb62b3e884262136b35204e6d9a8", func := "bitcast/bitcastlaw06.ShortestRoutes", spec := "shortestRoutes", unfollowed := true, recurses := true, apart := false, narrowed := true }
def ShortestRoutesUptoSaid : Prop := shortestRoutesUptoRow.holds Try.pinned (OpenSpec.upto shortestRoutesSpec)

/-- 'bitcastlaw06.ShortestNexts', WHERE WHAT IT READS IS OF BULK AT MOST 1048576: true; the input reads as it did. -/
def shortestNextsUptoRow : OpenClaim := { program := "ytflifgcoleknlaa", sum := "dbb8c16ae5a93b3dca7f9daeb9a182b043affb62b3e884262136b35204e6d9a8", func := "bitcast/bitcastlaw06.ShortestNexts", spec := "shortestNexts", unfollowed := true, recurses := true, apart := false, narrowed := true }
def ShortestNextsUptoSaid : Prop := shortestNextsUptoRow.holds Try.pinned (OpenSpec.upto shortestNextsSpec)

/-- 'bitcastlaw06.ShortestAvoids', WHERE WHAT IT READS IS OF BULK AT MOST 1048576: true; the input reads as it did. -/
def shortestAvoidsUptoRow : OpenClaim := { program := "ytflifgcoleknlaa", sum := "dbb8c16ae5a93b3dca7f9daeb9a182b043affb62b3e884262136b35204e6d9a8", func := "bitcast/bitcastlaw06.ShortestAvoids", spec := "shortestAvoids", unfollowed := true, recurses := true, apart := false, narrowed := true }
def ShortestAvoidsUptoSaid : Prop := shortestAvoidsUptoRow.holds Try.pinned (OpenSpec.upto shortestAvoidsSpec)

/-- 'bitcastlaw06.ShortestUnique', WHERE WHAT IT READS IS OF BULK AT MOST 1048576: true; the input reads as it did. -/
def shortestUniqueUptoRow : OpenClaim := { program := "ytflifgcoleknlaa", sum := "dbb8c16ae5a93b3dca7f9daeb9a182b043affb62b3e884262136b35204e6d9a8", func := "bitcast/bitcastlaw06.ShortestUnique", spec := "shortestUnique", unfollowed := true, recurses := true, apart := false, narrowed := true }
def ShortestUniqueUptoSaid : Prop := shortestUniqueUptoRow.holds Try.pinned (OpenSpec.upto shortestUniqueSpec)

/-- 'bitcastlaw06.ShortestCosts', WHERE WHAT IT READS IS OF BULK AT MOST 1048576: true; the input reads as it did. -/
def shortestCostsUptoRow : OpenClaim := { program := "ytflifgcoleknlaa", sum := "dbb8c16ae5a93b3dca7f9daeb9a182b043affb62b3e884262136b35204e6d9a8", func := "bitcast/bitcastlaw06.ShortestCosts", spec := "shortestCosts", unfollowed := true, recurses := true, apart := false, narrowed := true }
def ShortestCostsUptoSaid : Prop := shortestCostsUptoRow.holds Try.pinned (OpenSpec.upto shortestCostsSpec)

end Rows
end Go.Proofs.Ytflifgcoleknlaa
