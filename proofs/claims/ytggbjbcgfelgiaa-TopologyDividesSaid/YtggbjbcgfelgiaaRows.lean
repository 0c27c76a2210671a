/-
  No cell of these rows narrows 'for every input' (looked for: loops, veiled, ifaces, maps, wideKeys, modest, calm, conditions, laid).
  DERIVED. THE GIVEN ROWS OF THIS SEAT. 8 by the template 'for every input the law returns true; each argument reads behind the call as it read before'; 0 by the template 'total and deterministic' (their statements: YtggbjbcgfelgiaaTotals.lean).
  GIVEN WITH THE SEED: the statements are not yours to turn. If you find one false, say at which input.
  Laid BY PROGRAM, IN A SANDBOX (cutbox-rows.mjs): the forced cells as the released guide's own fill.sh prints them over the translation 10858bb517a1aaf7… (all of the seat's roots in one cut). By AI agents, Wed Nov 11 2026. No macro, syntax, notation, axiom, sorry.
-/
import Derived.Test.YtggbjbcgfelgiaaChecked
import GoSem.Claim
import GoSem.ClaimJoined
import GoSem.ClaimMapViews
import Derived.JoinedTies
import Derived.KernelRfl
namespace Go.Proofs.Ytggbjbcgfelgiaa
/- THE CELL 'sum', in the pinned program and in every row, IS THE sha256 OF THE DUMP (.gsa) THAT YtggbjbcgfelgiaaProg.lean LOADS. Nothing in Lean hashes anything: it is a label: what it is worth is what the hold of that sum in a sandbox is worth. -/
noncomputable def Try.pinned : Pinned := { name := "ytggbjbcgfelgiaa", sum := "10858bb517a1aaf700094d22f1541d016fdd6427f09f3df5063fd669d5293bbc", checked := Try.checked }
namespace Rows
def none {H : Type} : Left H := { results := [], args := [] }

/-- 'bitcastlaw05.TopologyChecks': WHATEVER THE INPUT: true; the input reads as it did. -/
def topologyChecksSpec : ChangeSpec := { name := "topologyChecks", fn := fun _ => fun
  | [d1, d2] => { results := [.lit (.bool true)], args := [d1, d2] }
  | _ => none }
def topologyChecksRow : OpenClaim := { program := "ytggbjbcgfelgiaa", sum := "10858bb517a1aaf700094d22f1541d016fdd6427f09f3df5063fd669d5293bbc", func := "bitcast/bitcastlaw05.TopologyChecks", spec := "topologyChecks", unfollowed := true, recurses := true, apart := false }
def TopologyChecksSaid : Prop := topologyChecksRow.holds Try.pinned (OpenSpec.ofChange topologyChecksSpec)

/-- ITS FALSE NEIGHBOUR: 'it returns false'. Refute it at one input. -/
def topologyChecksWrong : ChangeSpec := { name := "topologyChecks", fn := fun _ => fun
  | [d1, d2] => { results := [.lit (.bool false)], args := [d1, d2] }
  | _ => none }
def TopologyChecksWrongFalsely : Prop := topologyChecksRow.holds Try.pinned (OpenSpec.ofChange topologyChecksWrong)

/-- 'bitcastlaw05.TopologyWithout': WHATEVER THE INPUT: true; the input reads as it did. -/
def topologyWithoutSpec : ChangeSpec := { name := "topologyWithout", fn := fun _ => fun
  | [d1, d2] => { results := [.lit (.bool true)], args := [d1, d2] }
  | _ => none }
def topologyWithoutRow : OpenClaim := { program := "ytggbjbcgfelgiaa", sum := "10858bb517a1aaf700094d22f1541d016fdd6427f09f3df5063fd669d5293bbc", func := "bitcast/bitcastlaw05.TopologyWithout", spec := "topologyWithout", unfollowed := true, recurses := true, apart := false }
def TopologyWithoutSaid : Prop := topologyWithoutRow.holds Try.pinned (OpenSpec.ofChange topologyWithoutSpec)

/-- ITS FALSE NEIGHBOUR: 'it returns false'. Refute it at one input. -/
def topologyWithoutWrong : ChangeSpec := { name := "topologyWithout", fn := fun _ => fun
  | [d1, d2] => { results := [.lit (.bool false)], args := [d1, d2] }
  | _ => none }
def TopologyWithoutWrongFalsely : Prop := topologyWithoutRow.holds Try.pinned (OpenSpec.ofChange topologyWithoutWrong)

/-- 'bitcastlaw05.TopologyWeak': WHATEVER THE INPUT: true; the input reads as it did. -/
def topologyWeakSpec : ChangeSpec := { name := "topologyWeak", fn := fun _ => fun
  | [d] => { results := [.lit (.bool true)], args := [d] }
  | _ => none }
def topologyWeakRow : OpenClaim := { program := "ytggbjbcgfelgiaa", sum := "10858bb517a1aaf700094d22f1541d016fdd6427f09f3df5063fd669d5293bbc", func := "bitcast/bitcastlaw05.TopologyWeak", spec := "topologyWeak", unfollowed := true, recurses := true, apart := false }
def TopologyWeakSaid : Prop := topologyWeakRow.holds Try.pinned (OpenSpec.ofChange topologyWeakSpec)

/-- ITS FALSE NEIGHBOUR: 'it returns false'. Refute it at one input. -/
def topologyWeakWrong : ChangeSpec := { name := "topologyWeak", fn := fun _ => fun
  | [d] => { results := [.lit (.bool false)], args := [d] }
  | _ => none }
def TopologyWeakWrongFalsely : Prop := topologyWeakRow.holds Try.pinned (OpenSpec.ofChange topologyWeakWrong)

/-- 'bitcastlaw05.TopologyParts': WHATEVER THE INPUT: true; the input reads as it did. -/
def topologyPartsSpec : ChangeSpec := { name := "topologyParts", fn := fun _ => fun
  | [d1, d2, d3] => { results := [.lit (.bool true)], args := [d1, d2, d3] }
  | _ => none }
def topologyPartsRow : OpenClaim := { program := "ytggbjbcgfelgiaa", sum := "10858bb517a1aaf700094d22f1541d016fdd6427f09f3df5063fd669d5293bbc", func := "bitcast/bitcastlaw05.TopologyParts", spec := "topologyParts", unfollowed := true, recurses := true, apart := false }
def TopologyPartsSaid : Prop := topologyPartsRow.holds Try.pinned (OpenSpec.ofChange topologyPartsSpec)

/-- ITS FALSE NEIGHBOUR: 'it returns false'. Refute it at one input. -/
def topologyPartsWrong : ChangeSpec := { name := "topologyParts", fn := fun _ => fun
  | [d1, d2, d3] => { results := [.lit (.bool false)], args := [d1, d2, d3] }
  | _ => none }
def TopologyPartsWrongFalsely : Prop := topologyPartsRow.holds Try.pinned (OpenSpec.ofChange topologyPartsWrong)

/-- 'bitcastlaw05.TopologyDivides': WHATEVER THE INPUT: true; the input reads as it did. -/
def topologyDividesSpec : ChangeSpec := { name := "topologyDivides", fn := fun _ => fun
  | [d] => { results := [.lit (.bool true)], args := [d] }
  | _ => none }
def topologyDividesRow : OpenClaim := { program := "ytggbjbcgfelgiaa", sum := "10858bb517a1aaf700094d22f1541d016fdd6427f09f3df5063fd669d5293bbc", func := "bitcast/bitcastlaw05.TopologyDivides", spec := "topologyDivides", unfollowed := true, recurses := true, apart := false }
def TopologyDividesSaid : Prop := topologyDividesRow.holds Try.pinned (OpenSpec.ofChange topologyDividesSpec)

/-- ITS FALSE NEIGHBOUR: 'it returns false'. Refute it at one input. -/
def topologyDividesWrong : ChangeSpec := { name := "topologyDivides", fn := fun _ => fun
  | [d] => { results := [.lit (.bool false)], args := [d] }
  | _ => none }
def TopologyDividesWrongFalsely : Prop := topologyDividesRow.holds Try.pinned (OpenSpec.ofChange topologyDividesWrong)

/-- 'bitcastlaw05.TopologyLooks': WHATEVER THE INPUT: true; the input reads as it did. -/
def topologyLooksSpec : ChangeSpec := { name := "topologyLooks", fn := fun _ => fun
  | [d1, d2, d3, d4] => { results := [.lit (.bool true)], args := [d1, d2, d3, d4] }
  | _ => none }
def topologyLooksRow : OpenClaim := { program := "ytggbjbcgfelgiaa", sum := "10858bb517a1aaf700094d22f1541d016fdd6427f09f3df5063fd669d5293bbc", func := "bitcast/bitcastlaw05.TopologyLooks", spec := "topologyLooks", unfollowed := true, recurses := true, apart := false }
def TopologyLooksSaid : Prop := topologyLooksRow.holds Try.pinned (OpenSpec.ofChange topologyLooksSpec)

/-- ITS FALSE NEIGHBOUR: 'it returns false'. Refute it at one input. -/
def topologyLooksWrong : ChangeSpec := { name := "topologyLooks", fn := fun _ => fun
  | [d1, d2, d3, d4] => { results := [.lit (.bool false)], args := [d1, d2, d3, d4] }
  | _ => none }
def TopologyLooksWrongFalsely : Prop := topologyLooksRow.holds Try.pinned (OpenSpec.ofChange topologyLooksWrong)

/-- 'bitcastlaw05.TopologyApplies': WHATEVER THE INPUT: true; the input reads as it did. -/
def topologyAppliesSpec : ChangeSpec := { name := "topologyApplies", fn := fun _ => fun
  | [d1, d2] => { results := [.lit (.bool true)], args := [d1, d2] }
  | _ => none }
def topologyAppliesRow : OpenClaim := { program := "ytggbjbcgfelgiaa", sum := "10858bb517a1aaf700094d22f1541d016fdd6427f09f3df5063fd669d5293bbc", func := "bitcast/bitcastlaw05.TopologyApplies", spec := "topologyApplies", inPlace := ["slices.overlaps[bitcast/api.Link]"], unfollowed := true, recurses := true, apart := false }
def TopologyAppliesSaid : Prop := topologyAppliesRow.holds Try.pinned (OpenSpec.ofChange topologyAppliesSpec)

/-- ITS FALSE NEIGHBOUR: 'it returns false'. Refute it at one input. -/
def topologyAppliesWrong : ChangeSpec := { name := "topologyApplies", fn := fun _ => fun
  | [d1, d2] => { results := [.lit (.bool false)], args := [d1, d2] }
  | _ => none }
def TopologyAppliesWrongFalsely : Prop := topologyAppliesRow.holds Try.pinned (OpenSpec.ofChange topologyAppliesWrong)

/-- 'bitcastlaw05.TopologyLimits': WHATEVER THE INPUT: true; the input reads as it did. -/
def topologyLimitsSpec : ChangeSpec := { name := "topologyLimits", fn := fun _ => fun
  | [d] => { results := [.lit (.bool true)], args := [d] }
  | _ => none }
def topologyLimitsRow : OpenClaim := { program := "ytggbjbcgfelgiaa", sum := "10858bb517a1aaf700094d22f1541d016fdd6427f09f3df5063fd669d5293bbc", func := "bitcast/bitcastlaw05.TopologyLimits", spec := "topologyLimits", inPlace := ["slices.overlaps[bitcast/api.Link]"], unfollowed := true, recurses := true, apart := false }
def TopologyLimitsSaid : Prop := topologyLimitsRow.holds Try.pinned (OpenSpec.ofChange topologyLimitsSpec)

/-- ITS FALSE NEIGHBOUR: 'it returns false'. Refute it at one input. -/
def topologyLimitsWrong : ChangeSpec := { name := "topologyLimits", fn := fun _ => fun
  | [d] => { results := [.lit (.bool false)], args := [d] }
  | _ => none }
def TopologyLimitsWrongFalsely : Prop := topologyLimitsRow.holds Try.pinned (OpenSpec.ofChange topologyLimitsWrong)

/- THE SECOND FORM. 'bulk': how many values and letters a reading holds, each counted each time it is reached (what is shared counts as often as it is met; a slice's spare places count too). A statement '..UptoSaid' is the law's where the arguments, and the package variables that the reading takes, are together of bulk at most 1048576: NARROWER than '..Said'. Prove '..Said' where nothing that the law and all that it calls make is longer than what came in: it says more and counts as full. Else prove '..UptoSaid'. A law counts once. -/
mutual
def uptoBulk {H : Type} : DataW H → Nat
  | .lit (.string bytes) => bytes.length + 1
  | .lit _ => 1
  | .nil => 1
  | .ptr d => uptoBulk d + 1
  | .slice elems spare => uptoBulkAll elems + uptoBulkAll spare + 1
  | .agg parts => uptoBulkAll parts + 1
  | .iface _ d => uptoBulk d + 1
  | .map entries => uptoBulkEntries entries + 1
  | .held _ => 1
def uptoBulkAll {H : Type} : List (DataW H) → Nat
  | [] => 0
  | d :: r => uptoBulk d + uptoBulkAll r
def uptoBulkEntries {H : Type} : List (Lit × DataW H) → Nat
  | [] => 0
  | x :: r => uptoBulkEntry x + uptoBulkEntries r
def uptoBulkEntry {H : Type} : Lit × DataW H → Nat
  | (.string bytes, d) => bytes.length + uptoBulk d + 1
  | (_, d) => uptoBulk d + 1
 end
def uptoSmall : (H : Type) → List (DataW H) → Bool := fun _ ds => decide (uptoBulkAll ds ≤ 1048576)
def OpenSpec.upto (s : _root_.Go.ChangeSpec) : _root_.Go.OpenSpec := { _root_.Go.OpenSpec.ofChange s with cond := some uptoSmall }

/-- 'bitcastlaw05.TopologyChecks', WHERE WHAT IT READS IS OF BULK AT MOST 1048576: true; the input reads as it did. -/
def topologyChecksUptoRow : OpenClaim := { program := "ytggbjbcgfelgiaa", sum := "10858bb517a1aaf700094d22f1541d016fdd6427f09f3df5063fd669d5293bbc", func := "bitcast/bitcastlaw05.TopologyChecks", spec := "topologyChecks", unfollowed := true, recurses := true, apart := false, narrowed := true }
def TopologyChecksUptoSaid : Prop := topologyChecksUptoRow.holds Try.pinned (OpenSpec.upto topologyChecksSpec)

/-- 'bitcastlaw05.TopologyWithout', WHERE WHAT IT READS IS OF BULK AT MOST 1048576: true; the input reads as it did. -/
def topologyWithoutUptoRow : OpenClaim := { program := "ytggbjbcgfelgiaa", sum := "10858bb517a1aaf700094d22f1541d016fdd6427f09f3df5063fd669d5293bbc", func := "bitcast/bitcastlaw05.TopologyWithout", spec := "topologyWithout", unfollowed := true, recurses := true, apart := false, narrowed := true }
def TopologyWithoutUptoSaid : Prop := topologyWithoutUptoRow.holds Try.pinned (OpenSpec.upto topologyWithoutSpec)

/-- 'bitcastlaw05.TopologyWeak', WHERE WHAT IT READS IS OF BULK AT MOST 1048576: true; the input reads as it did. -/
def topologyWeakUptoRow : OpenClaim := { program := "ytggbjbcgfelgiaa", sum := "10858bb517a1aaf700094d22f1541d016fdd6427f09f3df5063fd669d5293bbc", func := "bitcast/bitcastlaw05.TopologyWeak", spec := "topologyWeak", unfollowed := true, recurses := true, apart := false, narrowed := true }
def TopologyWeakUptoSaid : Prop := topologyWeakUptoRow.holds Try.pinned (OpenSpec.upto topologyWeakSpec)

/-- 'bitcastlaw05.TopologyParts', WHERE WHAT IT READS IS OF BULK AT MOST 1048576: true; the input reads as it did. -/
def topologyPartsUptoRow : OpenClaim := { program := "ytggbjbcgfelgiaa", sum := "10858bb517a1aaf700094d22f1541d016fdd6427f09f3df5063fd669d5293bbc", func := "bitcast/bitcastlaw05.TopologyParts", spec := "topologyParts", unfollowed := true, recurses := true, apart := false, narrowed := true }
def TopologyPartsUptoSaid : Prop := topologyPartsUptoRow.holds Try.pinned (OpenSpec.upto topologyPartsSpec)

/-- 'bitcastlaw05.TopologyDivides', WHERE WHAT IT READS IS OF BULK AT MOST 1048576: true; the input reads as it did. -/
def topologyDividesUptoRow : OpenClaim := { program := "ytggbjbcgfelgiaa", sum := "10858bb517a1aaf700094d22f1541d016fdd6427f09f3df5063fd669d5293bbc", func := "bitcast/bitcastlaw05.TopologyDivides", spec := "topologyDivides", unfollowed := true, recurses := true, apart := false, narrowed := true }
def TopologyDividesUptoSaid : Prop := topologyDividesUptoRow.holds Try.pinned (OpenSpec.upto topologyDividesSpec)

/-- 'bitcastlaw05.TopologyLooks', WHERE WHAT IT READS IS OF BULK AT MOST 1048576: true; the input reads as it did. -/
def topologyLooksUptoRow : OpenClaim := { program := "ytggbjbcgfelgiaa", sum := "10858bb517a1aaf700094d22f1541d016fdd6427f09f3df5063fd669d5293bbc", func := "bitcast/bitcastlaw05.TopologyLooks", spec := "topologyLooks", unfollowed := true, recurses := true, apart := false, narrowed := true }
def TopologyLooksUptoSaid : Prop := topologyLooksUptoRow.holds Try.pinned (OpenSpec.upto topologyLooksSpec)

/-- 'bitcastlaw05.TopologyApplies', WHERE WHAT IT READS IS OF BULK AT MOST 1048576: true; the input reads as it did. -/
def topologyAppliesUptoRow : OpenClaim := { program := "ytggbjbcgfelgiaa", sum := "10858bb517a1aaf700094d22f1541d016fdd6427f09f3df5063fd669d5293bbc", func := "bitcast/bitcastlaw05.TopologyApplies", spec := "topologyApplies", inPlace := ["slices.overlaps[bitcast/api.Link]"], unfollowed := true, recurses := true, apart := false, narrowed := true }
def TopologyAppliesUptoSaid : Prop := topologyAppliesUptoRow.holds Try.pinned (OpenSpec.upto topologyAppliesSpec)

/-- 'bitcastlaw05.TopologyLimits', WHERE WHAT IT READS IS OF BULK AT MOST 1048576: true; the input reads as it did. -/
def topologyLimitsUptoRow : OpenClaim := { program := "ytggbjbcgfelgiaa", sum := "10858bb517a1aaf700094d22f1541d016fdd6427f09f3df5063fd669d5293bbc", func := "bitcast/bitcastlaw05.TopologyLimits", spec := "topologyLimits", inPlace := ["slices.overlaps[bitcast/api.Link]"], unfollowed := true, recurses := true, apart := false, narrowed := true }
def TopologyLimitsUptoSaid : Prop := topologyLimitsUptoRow.holds Try.pinned (OpenSpec.upto topologyLimitsSpec)

end Rows
end Go.Proofs.Ytggbjbcgfelgiaa
