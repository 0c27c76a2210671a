/-
  No cell of these rows narrows 'for every input' (looked for: loops, veiled, ifaces, maps, wideKeys, modest, calm, conditions, laid).
  DERIVED. THE GIVEN ROWS OF THIS SEAT. 8 by the template 'for every input the law returns true; each argument reads behind the call as it read before'; 0 by the template 'total and deterministic' (their statements: YtjdopimopgpagaaGreatTotals.lean).
  GIVEN WITH THE SEED: the statements are not yours to turn. If you find one false, say at which input.
  Laid BY PROGRAM, IN A SANDBOX (cutbox-rows.mjs): the forced cells as the released guide's own fill.sh prints them over the translation 896c692b828d68b3… (all of the seat's roots in one cut). By AI agents, Wed Nov 11 2026. No macro, syntax, notation, axiom, sorry.
-/
import Derived.Test.YtjdopimopgpagaaGreatChecked
import GoSem.Claim
import GoSem.ClaimJoined
import GoSem.ClaimMapViews
import Derived.JoinedTies
import Derived.KernelRfl
namespace Go.Proofs.YtjdopimopgpagaaGreat
/- THE CELL 'sum', in the pinned program and in every row, IS THE sha256 OF THE DUMP (.gsa) THAT YtjdopimopgpagaaGreatProg.lean LOADS. Nothing in Lean hashes anything: it is a label: what it is worth is what the hold of that sum in a sandbox is worth. -/
noncomputable def Tryz.pinned : Pinned := { name := "ytjdopimopgpagaagreat", sum := "896c692b828d68b3d4646d947698e291f65b5dd162c0bc44de8cefda2159d830", checked := Tryz.checked }
namespace Rows
def none {H : Type} : Left H := { results := [], args := [] }

/-- 'bitcastlaw09.FloodingRounds': WHATEVER THE INPUT: true; the input reads as it did. -/
def floodingRoundsSpec : ChangeSpec := { name := "floodingRounds", fn := fun _ => fun
  | [d1, d2] => { results := [.lit (.bool true)], args := [d1, d2] }
  | _ => none }
def floodingRoundsRow : OpenClaim := { program := "ytjdopimopgpagaagreat", sum := "896c692b828d68b3d4646d947698e291f65b5dd162c0bc44de8cefda2159d830", func := "bitcast/bitcastlaw09.FloodingRounds", spec := "floodingRounds", inPlace := ["slices.overlaps[bitcast/api.Advert]", "internal/bytealg.Compare"], unfollowed := true, recurses := true, apart := false }
def FloodingRoundsSaid : Prop := floodingRoundsRow.holds Tryz.pinned (OpenSpec.ofChange floodingRoundsSpec)

/-- ITS FALSE NEIGHBOUR: 'it returns false'. Refute it at one input. -/
def floodingRoundsWrong : ChangeSpec := { name := "floodingRounds", fn := fun _ => fun
  | [d1, d2] => { results := [.lit (.bool false)], args := [d1, d2] }
  | _ => none }
def FloodingRoundsWrongFalsely : Prop := floodingRoundsRow.holds Tryz.pinned (OpenSpec.ofChange floodingRoundsWrong)

/-- 'bitcastlaw09.FloodingSettles': WHATEVER THE INPUT: true; the input reads as it did. -/
def floodingSettlesSpec : ChangeSpec := { name := "floodingSettles", fn := fun _ => fun
  | [d] => { results := [.lit (.bool true)], args := [d] }
  | _ => none }
def floodingSettlesRow : OpenClaim := { program := "ytjdopimopgpagaagreat", sum := "896c692b828d68b3d4646d947698e291f65b5dd162c0bc44de8cefda2159d830", func := "bitcast/bitcastlaw09.FloodingSettles", spec := "floodingSettles", inPlace := ["slices.overlaps[bitcast/api.Advert]", "internal/bytealg.Compare"], unfollowed := true, recurses := true, apart := false }
def FloodingSettlesSaid : Prop := floodingSettlesRow.holds Tryz.pinned (OpenSpec.ofChange floodingSettlesSpec)

/-- ITS FALSE NEIGHBOUR: 'it returns false'. Refute it at one input. -/
def floodingSettlesWrong : ChangeSpec := { name := "floodingSettles", fn := fun _ => fun
  | [d] => { results := [.lit (.bool false)], args := [d] }
  | _ => none }
def FloodingSettlesWrongFalsely : Prop := floodingSettlesRow.holds Tryz.pinned (OpenSpec.ofChange floodingSettlesWrong)

/-- 'bitcastlaw09.FloodingChecks': WHATEVER THE INPUT: true; the input reads as it did. -/
def floodingChecksSpec : ChangeSpec := { name := "floodingChecks", fn := fun _ => fun
  | [d1, d2, d3] => { results := [.lit (.bool true)], args := [d1, d2, d3] }
  | _ => none }
def floodingChecksRow : OpenClaim := { program := "ytjdopimopgpagaagreat", sum := "896c692b828d68b3d4646d947698e291f65b5dd162c0bc44de8cefda2159d830", func := "bitcast/bitcastlaw09.FloodingChecks", spec := "floodingChecks", inPlace := ["slices.overlaps[bitcast/api.Advert]", "internal/bytealg.Compare"], unfollowed := true, recurses := true, apart := false }
def FloodingChecksSaid : Prop := floodingChecksRow.holds Tryz.pinned (OpenSpec.ofChange floodingChecksSpec)

/-- ITS FALSE NEIGHBOUR: 'it returns false'. Refute it at one input. -/
def floodingChecksWrong : ChangeSpec := { name := "floodingChecks", fn := fun _ => fun
  | [d1, d2, d3] => { results := [.lit (.bool false)], args := [d1, d2, d3] }
  | _ => none }
def FloodingChecksWrongFalsely : Prop := floodingChecksRow.holds Tryz.pinned (OpenSpec.ofChange floodingChecksWrong)

/-- 'bitcastlaw09.FloodingIssues': WHATEVER THE INPUT: true; the input reads as it did. -/
def floodingIssuesSpec : ChangeSpec := { name := "floodingIssues", fn := fun _ => fun
  | [d1, d2, d3] => { results := [.lit (.bool true)], args := [d1, d2, d3] }
  | _ => none }
def floodingIssuesRow : OpenClaim := { program := "ytjdopimopgpagaagreat", sum := "896c692b828d68b3d4646d947698e291f65b5dd162c0bc44de8cefda2159d830", func := "bitcast/bitcastlaw09.FloodingIssues", spec := "floodingIssues", inPlace := ["slices.overlaps[bitcast/api.Advert]", "internal/bytealg.Compare"], unfollowed := true, recurses := true, apart := false }
def FloodingIssuesSaid : Prop := floodingIssuesRow.holds Tryz.pinned (OpenSpec.ofChange floodingIssuesSpec)

/-- ITS FALSE NEIGHBOUR: 'it returns false'. Refute it at one input. -/
def floodingIssuesWrong : ChangeSpec := { name := "floodingIssues", fn := fun _ => fun
  | [d1, d2, d3] => { results := [.lit (.bool false)], args := [d1, d2, d3] }
  | _ => none }
def FloodingIssuesWrongFalsely : Prop := floodingIssuesRow.holds Tryz.pinned (OpenSpec.ofChange floodingIssuesWrong)

/-- 'bitcastlaw09.FloodingFull': WHATEVER THE INPUT: true; the input reads as it did. -/
def floodingFullSpec : ChangeSpec := { name := "floodingFull", fn := fun _ => fun
  | [d] => { results := [.lit (.bool true)], args := [d] }
  | _ => none }
def floodingFullRow : OpenClaim := { program := "ytjdopimopgpagaagreat", sum := "896c692b828d68b3d4646d947698e291f65b5dd162c0bc44de8cefda2159d830", func := "bitcast/bitcastlaw09.FloodingFull", spec := "floodingFull", inPlace := ["slices.overlaps[bitcast/api.Advert]", "internal/bytealg.Compare"], unfollowed := true, recurses := true, apart := false }
def FloodingFullSaid : Prop := floodingFullRow.holds Tryz.pinned (OpenSpec.ofChange floodingFullSpec)

/-- ITS FALSE NEIGHBOUR: 'it returns false'. Refute it at one input. -/
def floodingFullWrong : ChangeSpec := { name := "floodingFull", fn := fun _ => fun
  | [d] => { results := [.lit (.bool false)], args := [d] }
  | _ => none }
def FloodingFullWrongFalsely : Prop := floodingFullRow.holds Tryz.pinned (OpenSpec.ofChange floodingFullWrong)

/-- 'bitcastlaw09.FloodingChanges': WHATEVER THE INPUT: true; the input reads as it did. -/
def floodingChangesSpec : ChangeSpec := { name := "floodingChanges", fn := fun _ => fun
  | [d1, d2] => { results := [.lit (.bool true)], args := [d1, d2] }
  | _ => none }
def floodingChangesRow : OpenClaim := { program := "ytjdopimopgpagaagreat", sum := "896c692b828d68b3d4646d947698e291f65b5dd162c0bc44de8cefda2159d830", func := "bitcast/bitcastlaw09.FloodingChanges", spec := "floodingChanges", inPlace := ["slices.overlaps[bitcast/api.Advert]", "internal/bytealg.Compare"], unfollowed := true, recurses := true, apart := false }
def FloodingChangesSaid : Prop := floodingChangesRow.holds Tryz.pinned (OpenSpec.ofChange floodingChangesSpec)

/-- ITS FALSE NEIGHBOUR: 'it returns false'. Refute it at one input. -/
def floodingChangesWrong : ChangeSpec := { name := "floodingChanges", fn := fun _ => fun
  | [d1, d2] => { results := [.lit (.bool false)], args := [d1, d2] }
  | _ => none }
def FloodingChangesWrongFalsely : Prop := floodingChangesRow.holds Tryz.pinned (OpenSpec.ofChange floodingChangesWrong)

/-- 'bitcastlaw09.FloodingDelivers': WHATEVER THE INPUT: true; the input reads as it did. -/
def floodingDeliversSpec : ChangeSpec := { name := "floodingDelivers", fn := fun _ => fun
  | [d1, d2, d3] => { results := [.lit (.bool true)], args := [d1, d2, d3] }
  | _ => none }
def floodingDeliversRow : OpenClaim := { program := "ytjdopimopgpagaagreat", sum := "896c692b828d68b3d4646d947698e291f65b5dd162c0bc44de8cefda2159d830", func := "bitcast/bitcastlaw09.FloodingDelivers", spec := "floodingDelivers", inPlace := ["slices.overlaps[bitcast/api.Advert]", "internal/bytealg.Compare"], unfollowed := true, recurses := true, apart := false }
def FloodingDeliversSaid : Prop := floodingDeliversRow.holds Tryz.pinned (OpenSpec.ofChange floodingDeliversSpec)

/-- ITS FALSE NEIGHBOUR: 'it returns false'. Refute it at one input. -/
def floodingDeliversWrong : ChangeSpec := { name := "floodingDelivers", fn := fun _ => fun
  | [d1, d2, d3] => { results := [.lit (.bool false)], args := [d1, d2, d3] }
  | _ => none }
def FloodingDeliversWrongFalsely : Prop := floodingDeliversRow.holds Tryz.pinned (OpenSpec.ofChange floodingDeliversWrong)

/-- 'bitcastlaw09.FloodingHeals': WHATEVER THE INPUT: true; the input reads as it did. -/
def floodingHealsSpec : ChangeSpec := { name := "floodingHeals", fn := fun _ => fun
  | [d] => { results := [.lit (.bool true)], args := [d] }
  | _ => none }
def floodingHealsRow : OpenClaim := { program := "ytjdopimopgpagaagreat", sum := "896c692b828d68b3d4646d947698e291f65b5dd162c0bc44de8cefda2159d830", func := "bitcast/bitcastlaw09.FloodingHeals", spec := "floodingHeals", inPlace := ["slices.overlaps[bitcast/api.Advert]", "internal/bytealg.Compare"], unfollowed := true, recurses := true, apart := false }
def FloodingHealsSaid : Prop := floodingHealsRow.holds Tryz.pinned (OpenSpec.ofChange floodingHealsSpec)

/-- ITS FALSE NEIGHBOUR: 'it returns false'. Refute it at one input. -/
def floodingHealsWrong : ChangeSpec := { name := "floodingHeals", fn := fun _ => fun
  | [d] => { results := [.lit (.bool false)], args := [d] }
  | _ => none }
def FloodingHealsWrongFalsely : Prop := floodingHealsRow.holds Tryz.pinned (OpenSpec.ofChange floodingHealsWrong)

/- THE SECOND FORM. 'bulk': how many values and letters a reading holds, each counted each time it is reached (what is shared counts as often as it is met; a slice's spare places count too). A statement '..UptoSaid' is the law's where the arguments, and the package variables that the reading takes, are together of bulk at most 1048576: NARROWER than '..Said'. Prove '..Said' where nothing that the law and all that it calls make is longer than what came in: it says more and counts as full. Else prove '..UptoSaid'. A law counts once. -/
mutual
def uptoBulk {H : Type} : DataW H → Nat
  | .lit (.string bytes) => bytes.length + 1
  | .lit _ => 1
  | .nil => 1
  | .ptr d => uptoBulk d + 1
  | .slice elems spare => uptoBulkAll elems + uptoBulkAll spare + 1
  | .agg parts => uptoBulkAll parts + 1
  | .iface _ d => uptoBulk d + 1
  | .map entries => uptoBulkEntries entries + 1
  | .held _ => 1
def uptoBulkAll {H : Type} : List (DataW H) → Nat
  | [] => 0
  | d :: r => uptoBulk d + uptoBulkAll r
def uptoBulkEntries {H : Type} : List (Lit × DataW H) → Nat
  | [] => 0
  | x :: r => uptoBulkEntry x + uptoBulkEntries r
def uptoBulkEntry {H : Type} : Lit × DataW H → Nat
  | (.string bytes, d) => bytes.length + uptoBulk d + 1
  | (_, d) => uptoBulk d + 1
 end
def uptoSmall : (H : Type) → List (DataW H) → Bool := fun _ ds => decide (uptoBulkAll ds ≤ 1048576)
def OpenSpec.upto (s : _root_.Go.ChangeSpec) : _root_.Go.OpenSpec := { _root_.Go.OpenSpec.ofChange s with cond := some uptoSmall }

/-- 'bitcastlaw09.FloodingRounds', WHERE WHAT IT READS IS OF BULK AT MOST 1048576: true; the input reads as it did. -/
def floodingRoundsUptoRow : OpenClaim := { program := "ytjdopimopgpagaagreat", sum := "896c692b828d68b3d4646d947698e291f65b5dd162c0bc44de8cefda2159d830", func := "bitcast/bitcastlaw09.FloodingRounds", spec := "floodingRounds", inPlace := ["slices.overlaps[bitcast/api.Advert]", "internal/bytealg.Compare"], unfollowed := true, recurses := true, apart := false, narrowed := true }
def FloodingRoundsUptoSaid : Prop := floodingRoundsUptoRow.holds Tryz.pinned (OpenSpec.upto floodingRoundsSpec)

/-- 'bitcastlaw09.FloodingSettles', WHERE WHAT IT READS IS OF BULK AT MOST 1048576: true; the input reads as it did. -/
def floodingSettlesUptoRow : OpenClaim := { program := "ytjdopimopgpagaagreat", sum := "896c692b828d68b3d4646d947698e291f65b5dd162c0bc44de8cefda2159d830", func := "bitcast/bitcastlaw09.FloodingSettles", spec := "floodingSettles", inPlace := ["slices.overlaps[bitcast/api.Advert]", "internal/bytealg.Compare"], unfollowed := true, recurses := true, apart := false, narrowed := true }
def FloodingSettlesUptoSaid : Prop := floodingSettlesUptoRow.holds Tryz.pinned (OpenSpec.upto floodingSettlesSpec)

/-- 'bitcastlaw09.FloodingChecks', WHERE WHAT IT READS IS OF BULK AT MOST 1048576: true; the input reads as it did. -/
def floodingChecksUptoRow : OpenClaim := { program := "ytjdopimopgpagaagreat", sum := "896c692b828d68b3d4646d947698e291f65b5dd162c0bc44de8cefda2159d830", func := "bitcast/bitcastlaw09.FloodingChecks", spec := "floodingChecks", inPlace := ["slices.overlaps[bitcast/api.Advert]", "internal/bytealg.Compare"], unfollowed := true, recurses := true, apart := false, narrowed := true }
def FloodingChecksUptoSaid : Prop := floodingChecksUptoRow.holds Tryz.pinned (OpenSpec.upto floodingChecksSpec)

/-- 'bitcastlaw09.FloodingIssues', WHERE WHAT IT READS IS OF BULK AT MOST 1048576: true; the input reads as it did. -/
def floodingIssuesUptoRow : OpenClaim := { program := "ytjdopimopgpagaagreat", sum := "896c692b828d68b3d4646d947698e291f65b5dd162c0bc44de8cefda2159d830", func := "bitcast/bitcastlaw09.FloodingIssues", spec := "floodingIssues", inPlace := ["slices.overlaps[bitcast/api.Advert]", "internal/bytealg.Compare"], unfollowed := true, recurses := true, apart := false, narrowed := true }
def FloodingIssuesUptoSaid : Prop := floodingIssuesUptoRow.holds Tryz.pinned (OpenSpec.upto floodingIssuesSpec)

/-- 'bitcastlaw09.FloodingFull', WHERE WHAT IT READS IS OF BULK AT MOST 1048576: true; the input reads as it did. -/
def floodingFullUptoRow : OpenClaim := { program := "ytjdopimopgpagaagreat", sum := "896c692b828d68b3d4646d947698e291f65b5dd162c0bc44de8cefda2159d830", func := "bitcast/bitcastlaw09.FloodingFull", spec := "floodingFull", inPlace := ["slices.overlaps[bitcast/api.Advert]", "internal/bytealg.Compare"], unfollowed := true, recurses := true, apart := false, narrowed := true }
def FloodingFullUptoSaid : Prop := floodingFullUptoRow.holds Tryz.pinned (OpenSpec.upto floodingFullSpec)

/-- 'bitcastlaw09.FloodingChanges', WHERE WHAT IT READS IS OF BULK AT MOST 1048576: true; the input reads as it did. -/
def floodingChangesUptoRow : OpenClaim := { program := "ytjdopimopgpagaagreat", sum := "896c692b828d68b3d4646d947698e291f65b5dd162c0bc44de8cefda2159d830", func := "bitcast/bitcastlaw09.FloodingChanges", spec := "floodingChanges", inPlace := ["slices.overlaps[bitcast/api.Advert]", "internal/bytealg.Compare"], unfollowed := true, recurses := true, apart := false, narrowed := true }
def FloodingChangesUptoSaid : Prop := floodingChangesUptoRow.holds Tryz.pinned (OpenSpec.upto floodingChangesSpec)

/-- 'bitcastlaw09.FloodingDelivers', WHERE WHAT IT READS IS OF BULK AT MOST 1048576: true; the input reads as it did. -/
def floodingDeliversUptoRow : OpenClaim := { program := "ytjdopimopgpagaagreat", sum := "896c692b828d68b3d4646d947698e291f65b5dd162c0bc44de8cefda2159d830", func := "bitcast/bitcastlaw09.FloodingDelivers", spec := "floodingDelivers", inPlace := ["slices.overlaps[bitcast/api.Advert]", "internal/bytealg.Compare"], unfollowed := true, recurses := true, apart := false, narrowed := true }
def FloodingDeliversUptoSaid : Prop := floodingDeliversUptoRow.holds Tryz.pinned (OpenSpec.upto floodingDeliversSpec)

/-- 'bitcastlaw09.FloodingHeals', WHERE WHAT IT READS IS OF BULK AT MOST 1048576: true; the input reads as it did. -/
def floodingHealsUptoRow : OpenClaim := { program := "ytjdopimopgpagaagreat", sum := "896c692b828d68b3d4646d947698e291f65b5dd162c0bc44de8cefda2159d830", func := "bitcast/bitcastlaw09.FloodingHeals", spec := "floodingHeals", inPlace := ["slices.overlaps[bitcast/api.Advert]", "internal/bytealg.Compare"], unfollowed := true, recurses := true, apart := false, narrowed := true }
def FloodingHealsUptoSaid : Prop := floodingHealsUptoRow.holds Tryz.pinned (OpenSpec.upto floodingHealsSpec)

end Rows
end Go.Proofs.YtjdopimopgpagaaGreat
