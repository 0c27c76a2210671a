/-
  No cell of these rows narrows 'for every input' (looked for: loops, veiled, ifaces, maps, wideKeys, modest, calm, conditions, laid).
  DERIVED. THE GIVEN ROWS OF THIS SEAT. 9 by the template 'for every input the law returns true; each argument reads behind the call as it read before'; 0 by the template 'total and deterministic' (their statements: YtmnbolcmepihlaaGreatTotals.lean).
  GIVEN WITH THE SEED: the statements are not yours to turn. If you find one false, say at which input.
  Laid BY PROGRAM, IN A SANDBOX (cutbox-rows.mjs): the forced cells as the released guide's own fill.sh prints them over the translation 15c7af885f4bfc1f… (all of the seat's roots in one cut). By AI agents, Wed Nov 11 2026. No macro, syntax, notation, axiom, sorry.
-/
import Derived.Test.YtmnbolcmepihlaaGreatChecked
import GoSem.Claim
import GoSem.ClaimJoined
import GoSem.ClaimMapViews
import Derived.JoinedTies
import Derived.KernelRfl
namespace Go.Proofs.YtmnbolcmepihlaaGreat
/- THE CELL 'sum', in the pinned program and in every row, IS THE sha256 OF THE DUMP (.gsa) THAT YtmnbolcmepihlaaGreatProg.lean LOADS. Nothing in Lean hashes anything: it is a label: what it is worth is what the hold of that sum in a sandbox is worth. -/
noncomputable def Tryz.pinned : Pinned := { name := "ytmnbolcmepihlaagreat", sum := "15c7af885f4bfc1f20de99074a341a951a7f58fe99ff8f9074cf5e3770f7821b", checked := Tryz.checked }
namespace Rows
def none {H : Type} : Left H := { results := [], args := [] }

/-- 'bitcastlaw32.SteinerCheapest': WHATEVER THE INPUT: true; the input reads as it did. -/
def steinerCheapestSpec : ChangeSpec := { name := "steinerCheapest", fn := fun _ => fun
  | [d] => { results := [.lit (.bool true)], args := [d] }
  | _ => none }
def steinerCheapestRow : OpenClaim := { program := "ytmnbolcmepihlaagreat", sum := "15c7af885f4bfc1f20de99074a341a951a7f58fe99ff8f9074cf5e3770f7821b", func := "bitcast/bitcastlaw32.SteinerCheapest", spec := "steinerCheapest", unfollowed := true, recurses := true, plainKeys := false, apart := false }
def SteinerCheapestSaid : Prop := steinerCheapestRow.holds Tryz.pinned (OpenSpec.ofChange steinerCheapestSpec)

/-- ITS FALSE NEIGHBOUR: 'it returns false'. Refute it at one input. -/
def steinerCheapestWrong : ChangeSpec := { name := "steinerCheapest", fn := fun _ => fun
  | [d] => { results := [.lit (.bool false)], args := [d] }
  | _ => none }
def SteinerCheapestWrongFalsely : Prop := steinerCheapestRow.holds Tryz.pinned (OpenSpec.ofChange steinerCheapestWrong)

/-- 'bitcastlaw33.CapacityWitness': WHATEVER THE INPUT: true; the input reads as it did. -/
def capacityWitnessSpec : ChangeSpec := { name := "capacityWitness", fn := fun _ => fun
  | [d] => { results := [.lit (.bool true)], args := [d] }
  | _ => none }
def capacityWitnessRow : OpenClaim := { program := "ytmnbolcmepihlaagreat", sum := "15c7af885f4bfc1f20de99074a341a951a7f58fe99ff8f9074cf5e3770f7821b", func := "bitcast/bitcastlaw33.CapacityWitness", spec := "capacityWitness", unfollowed := true, recurses := true, plainKeys := false, apart := false }
def CapacityWitnessSaid : Prop := capacityWitnessRow.holds Tryz.pinned (OpenSpec.ofChange capacityWitnessSpec)

/-- ITS FALSE NEIGHBOUR: 'it returns false'. Refute it at one input. -/
def capacityWitnessWrong : ChangeSpec := { name := "capacityWitness", fn := fun _ => fun
  | [d] => { results := [.lit (.bool false)], args := [d] }
  | _ => none }
def CapacityWitnessWrongFalsely : Prop := capacityWitnessRow.holds Tryz.pinned (OpenSpec.ofChange capacityWitnessWrong)

/-- 'bitcastlaw33.CapacitySingle': WHATEVER THE INPUT: true; the input reads as it did. -/
def capacitySingleSpec : ChangeSpec := { name := "capacitySingle", fn := fun _ => fun
  | [d] => { results := [.lit (.bool true)], args := [d] }
  | _ => none }
def capacitySingleRow : OpenClaim := { program := "ytmnbolcmepihlaagreat", sum := "15c7af885f4bfc1f20de99074a341a951a7f58fe99ff8f9074cf5e3770f7821b", func := "bitcast/bitcastlaw33.CapacitySingle", spec := "capacitySingle", unfollowed := true, recurses := true, plainKeys := false, apart := false }
def CapacitySingleSaid : Prop := capacitySingleRow.holds Tryz.pinned (OpenSpec.ofChange capacitySingleSpec)

/-- ITS FALSE NEIGHBOUR: 'it returns false'. Refute it at one input. -/
def capacitySingleWrong : ChangeSpec := { name := "capacitySingle", fn := fun _ => fun
  | [d] => { results := [.lit (.bool false)], args := [d] }
  | _ => none }
def CapacitySingleWrongFalsely : Prop := capacitySingleRow.holds Tryz.pinned (OpenSpec.ofChange capacitySingleWrong)

/-- 'bitcastlaw33.CapacityHolds': WHATEVER THE INPUT: true; the input reads as it did. -/
def capacityHoldsSpec : ChangeSpec := { name := "capacityHolds", fn := fun _ => fun
  | [d] => { results := [.lit (.bool true)], args := [d] }
  | _ => none }
def capacityHoldsRow : OpenClaim := { program := "ytmnbolcmepihlaagreat", sum := "15c7af885f4bfc1f20de99074a341a951a7f58fe99ff8f9074cf5e3770f7821b", func := "bitcast/bitcastlaw33.CapacityHolds", spec := "capacityHolds", unfollowed := true, recurses := true, plainKeys := false, apart := false }
def CapacityHoldsSaid : Prop := capacityHoldsRow.holds Tryz.pinned (OpenSpec.ofChange capacityHoldsSpec)

/-- ITS FALSE NEIGHBOUR: 'it returns false'. Refute it at one input. -/
def capacityHoldsWrong : ChangeSpec := { name := "capacityHolds", fn := fun _ => fun
  | [d] => { results := [.lit (.bool false)], args := [d] }
  | _ => none }
def CapacityHoldsWrongFalsely : Prop := capacityHoldsRow.holds Tryz.pinned (OpenSpec.ofChange capacityHoldsWrong)

/-- 'bitcastlaw33.CapacityPlaces': WHATEVER THE INPUT: true; the input reads as it did. -/
def capacityPlacesSpec : ChangeSpec := { name := "capacityPlaces", fn := fun _ => fun
  | [d] => { results := [.lit (.bool true)], args := [d] }
  | _ => none }
def capacityPlacesRow : OpenClaim := { program := "ytmnbolcmepihlaagreat", sum := "15c7af885f4bfc1f20de99074a341a951a7f58fe99ff8f9074cf5e3770f7821b", func := "bitcast/bitcastlaw33.CapacityPlaces", spec := "capacityPlaces", unfollowed := true, recurses := true, plainKeys := false, apart := false }
def CapacityPlacesSaid : Prop := capacityPlacesRow.holds Tryz.pinned (OpenSpec.ofChange capacityPlacesSpec)

/-- ITS FALSE NEIGHBOUR: 'it returns false'. Refute it at one input. -/
def capacityPlacesWrong : ChangeSpec := { name := "capacityPlaces", fn := fun _ => fun
  | [d] => { results := [.lit (.bool false)], args := [d] }
  | _ => none }
def CapacityPlacesWrongFalsely : Prop := capacityPlacesRow.holds Tryz.pinned (OpenSpec.ofChange capacityPlacesWrong)

/-- 'bitcastlaw33.CapacityAnswers': WHATEVER THE INPUT: true; the input reads as it did. -/
def capacityAnswersSpec : ChangeSpec := { name := "capacityAnswers", fn := fun _ => fun
  | [d1, d2, d3, d4, d5, d6] => { results := [.lit (.bool true)], args := [d1, d2, d3, d4, d5, d6] }
  | _ => none }
def capacityAnswersRow : OpenClaim := { program := "ytmnbolcmepihlaagreat", sum := "15c7af885f4bfc1f20de99074a341a951a7f58fe99ff8f9074cf5e3770f7821b", func := "bitcast/bitcastlaw33.CapacityAnswers", spec := "capacityAnswers", unfollowed := true, recurses := true, plainKeys := false, apart := false }
def CapacityAnswersSaid : Prop := capacityAnswersRow.holds Tryz.pinned (OpenSpec.ofChange capacityAnswersSpec)

/-- ITS FALSE NEIGHBOUR: 'it returns false'. Refute it at one input. -/
def capacityAnswersWrong : ChangeSpec := { name := "capacityAnswers", fn := fun _ => fun
  | [d1, d2, d3, d4, d5, d6] => { results := [.lit (.bool false)], args := [d1, d2, d3, d4, d5, d6] }
  | _ => none }
def CapacityAnswersWrongFalsely : Prop := capacityAnswersRow.holds Tryz.pinned (OpenSpec.ofChange capacityAnswersWrong)

/-- 'bitcastlaw32.SteinerMore': WHATEVER THE INPUT: true; the input reads as it did. -/
def steinerMoreSpec : ChangeSpec := { name := "steinerMore", fn := fun _ => fun
  | [d] => { results := [.lit (.bool true)], args := [d] }
  | _ => none }
def steinerMoreRow : OpenClaim := { program := "ytmnbolcmepihlaagreat", sum := "15c7af885f4bfc1f20de99074a341a951a7f58fe99ff8f9074cf5e3770f7821b", func := "bitcast/bitcastlaw32.SteinerMore", spec := "steinerMore", unfollowed := true, recurses := true, plainKeys := false, apart := false }
def SteinerMoreSaid : Prop := steinerMoreRow.holds Tryz.pinned (OpenSpec.ofChange steinerMoreSpec)

/-- ITS FALSE NEIGHBOUR: 'it returns false'. Refute it at one input. -/
def steinerMoreWrong : ChangeSpec := { name := "steinerMore", fn := fun _ => fun
  | [d] => { results := [.lit (.bool false)], args := [d] }
  | _ => none }
def SteinerMoreWrongFalsely : Prop := steinerMoreRow.holds Tryz.pinned (OpenSpec.ofChange steinerMoreWrong)

/-- 'bitcastlaw32.SteinerAnswers': WHATEVER THE INPUT: true; the input reads as it did. -/
def steinerAnswersSpec : ChangeSpec := { name := "steinerAnswers", fn := fun _ => fun
  | [d1, d2, d3, d4, d5, d6] => { results := [.lit (.bool true)], args := [d1, d2, d3, d4, d5, d6] }
  | _ => none }
def steinerAnswersRow : OpenClaim := { program := "ytmnbolcmepihlaagreat", sum := "15c7af885f4bfc1f20de99074a341a951a7f58fe99ff8f9074cf5e3770f7821b", func := "bitcast/bitcastlaw32.SteinerAnswers", spec := "steinerAnswers", unfollowed := true, recurses := true, plainKeys := false, apart := false }
def SteinerAnswersSaid : Prop := steinerAnswersRow.holds Tryz.pinned (OpenSpec.ofChange steinerAnswersSpec)

/-- ITS FALSE NEIGHBOUR: 'it returns false'. Refute it at one input. -/
def steinerAnswersWrong : ChangeSpec := { name := "steinerAnswers", fn := fun _ => fun
  | [d1, d2, d3, d4, d5, d6] => { results := [.lit (.bool false)], args := [d1, d2, d3, d4, d5, d6] }
  | _ => none }
def SteinerAnswersWrongFalsely : Prop := steinerAnswersRow.holds Tryz.pinned (OpenSpec.ofChange steinerAnswersWrong)

/-- 'bitcastlaw32.SteinerBounds': WHATEVER THE INPUT: true; the input reads as it did. -/
def steinerBoundsSpec : ChangeSpec := { name := "steinerBounds", fn := fun _ => fun
  | [d1, d2] => { results := [.lit (.bool true)], args := [d1, d2] }
  | _ => none }
def steinerBoundsRow : OpenClaim := { program := "ytmnbolcmepihlaagreat", sum := "15c7af885f4bfc1f20de99074a341a951a7f58fe99ff8f9074cf5e3770f7821b", func := "bitcast/bitcastlaw32.SteinerBounds", spec := "steinerBounds", unfollowed := true, recurses := true, plainKeys := false, apart := false }
def SteinerBoundsSaid : Prop := steinerBoundsRow.holds Tryz.pinned (OpenSpec.ofChange steinerBoundsSpec)

/-- ITS FALSE NEIGHBOUR: 'it returns false'. Refute it at one input. -/
def steinerBoundsWrong : ChangeSpec := { name := "steinerBounds", fn := fun _ => fun
  | [d1, d2] => { results := [.lit (.bool false)], args := [d1, d2] }
  | _ => none }
def SteinerBoundsWrongFalsely : Prop := steinerBoundsRow.holds Tryz.pinned (OpenSpec.ofChange steinerBoundsWrong)

/- THE SECOND FORM. 'bulk': how many values and letters a reading holds, each counted each time it is reached (what is shared counts as often as it is met; a slice's spare places count too). A statement '..UptoSaid' is the law's where the arguments, and the package variables that the reading takes, are together of bulk at most 1048576: NARROWER than '..Said'. Prove '..Said' where nothing that the law and all that it calls make is longer than what came in: it says more and counts as full. Else prove '..UptoSaid'. A law counts once. -/
mutual
def uptoBulk {H : Type} : DataW H → Nat
  | .lit (.string bytes) => bytes.length + 1
  | .lit _ => 1
  | .nil => 1
  | .ptr d => uptoBulk d + 1
  | .slice elems spare => uptoBulkAll elems + uptoBulkAll spare + 1
  | .agg parts => uptoBulkAll parts + 1
  | .iface _ d => uptoBulk d + 1
  | .map entries => uptoBulkEntries entries + 1
  | .held _ => 1
def uptoBulkAll {H : Type} : List (DataW H) → Nat
  | [] => 0
  | d :: r => uptoBulk d + uptoBulkAll r
def uptoBulkEntries {H : Type} : List (Lit × DataW H) → Nat
  | [] => 0
  | x :: r => uptoBulkEntry x + uptoBulkEntries r
def uptoBulkEntry {H : Type} : Lit × DataW H → Nat
  | (.string bytes, d) => bytes.length + uptoBulk d + 1
  | (_, d) => uptoBulk d + 1
 end
def uptoSmall : (H : Type) → List (DataW H) → Bool := fun _ ds => decide (uptoBulkAll ds ≤ 1048576)
def OpenSpec.upto (s : _root_.Go.ChangeSpec) : _root_.Go.OpenSpec := { _root_.Go.OpenSpec.ofChange s with cond := some uptoSmall }

/-- 'bitcastlaw32.SteinerCheapest', WHERE WHAT IT READS IS OF BULK AT MOST 1048576: true; the input reads as it did. -/
def steinerCheapestUptoRow : OpenClaim := { program := "ytmnbolcmepihlaagreat", sum := "15c7af885f4bfc1f20de99074a341a951a7f58fe99ff8f9074cf5e3770f7821b", func := "bitcast/bitcastlaw32.SteinerCheapest", spec := "steinerCheapest", unfollowed := true, recurses := true, plainKeys := false, apart := false, narrowed := true }
def SteinerCheapestUptoSaid : Prop := steinerCheapestUptoRow.holds Tryz.pinned (OpenSpec.upto steinerCheapestSpec)

/-- 'bitcastlaw33.CapacityWitness', WHERE WHAT IT READS IS OF BULK AT MOST 1048576: true; the input reads as it did. -/
def capacityWitnessUptoRow : OpenClaim := { program := "ytmnbolcmepihlaagreat", sum := "15c7af885f4bfc1f20de99074a341a951a7f58fe99ff8f9074cf5e3770f7821b", func := "bitcast/bitcastlaw33.CapacityWitness", spec := "capacityWitness", unfollowed := true, recurses := true, plainKeys := false, apart := false, narrowed := true }
def CapacityWitnessUptoSaid : Prop := capacityWitnessUptoRow.holds Tryz.pinned (OpenSpec.upto capacityWitnessSpec)

/-- 'bitcastlaw33.CapacitySingle', WHERE WHAT IT READS IS OF BULK AT MOST 1048576: true; the input reads as it did. -/
def capacitySingleUptoRow : OpenClaim := { program := "ytmnbolcmepihlaagreat", sum := "15c7af885f4bfc1f20de99074a341a951a7f58fe99ff8f9074cf5e3770f7821b", func := "bitcast/bitcastlaw33.CapacitySingle", spec := "capacitySingle", unfollowed := true, recurses := true, plainKeys := false, apart := false, narrowed := true }
def CapacitySingleUptoSaid : Prop := capacitySingleUptoRow.holds Tryz.pinned (OpenSpec.upto capacitySingleSpec)

/-- 'bitcastlaw33.CapacityHolds', WHERE WHAT IT READS IS OF BULK AT MOST 1048576: true; the input reads as it did. -/
def capacityHoldsUptoRow : OpenClaim := { program := "ytmnbolcmepihlaagreat", sum := "15c7af885f4bfc1f20de99074a341a951a7f58fe99ff8f9074cf5e3770f7821b", func := "bitcast/bitcastlaw33.CapacityHolds", spec := "capacityHolds", unfollowed := true, recurses := true, plainKeys := false, apart := false, narrowed := true }
def CapacityHoldsUptoSaid : Prop := capacityHoldsUptoRow.holds Tryz.pinned (OpenSpec.upto capacityHoldsSpec)

/-- 'bitcastlaw33.CapacityPlaces', WHERE WHAT IT READS IS OF BULK AT MOST 1048576: true; the input reads as it did. -/
def capacityPlacesUptoRow : OpenClaim := { program := "ytmnbolcmepihlaagreat", sum := "15c7af885f4bfc1f20de99074a341a951a7f58fe99ff8f9074cf5e3770f7821b", func := "bitcast/bitcastlaw33.CapacityPlaces", spec := "capacityPlaces", unfollowed := true, recurses := true, plainKeys := false, apart := false, narrowed := true }
def CapacityPlacesUptoSaid : Prop := capacityPlacesUptoRow.holds Tryz.pinned (OpenSpec.upto capacityPlacesSpec)

/-- 'bitcastlaw33.CapacityAnswers', WHERE WHAT IT READS IS OF BULK AT MOST 1048576: true; the input reads as it did. -/
def capacityAnswersUptoRow : OpenClaim := { program := "ytmnbolcmepihlaagreat", sum := "15c7af885f4bfc1f20de99074a341a951a7f58fe99ff8f9074cf5e3770f7821b", func := "bitcast/bitcastlaw33.CapacityAnswers", spec := "capacityAnswers", unfollowed := true, recurses := true, plainKeys := false, apart := false, narrowed := true }
def CapacityAnswersUptoSaid : Prop := capacityAnswersUptoRow.holds Tryz.pinned (OpenSpec.upto capacityAnswersSpec)

/-- 'bitcastlaw32.SteinerMore', WHERE WHAT IT READS IS OF BULK AT MOST 1048576: true; the input reads as it did. -/
def steinerMoreUptoRow : OpenClaim := { program := "ytmnbolcmepihlaagreat", sum := "15c7af885f4bfc1f20de99074a341a951a7f58fe99ff8f9074cf5e3770f7821b", func := "bitcast/bitcastlaw32.SteinerMore", spec := "steinerMore", unfollowed := true, recurses := true, plainKeys := false, apart := false, narrowed := true }
def SteinerMoreUptoSaid : Prop := steinerMoreUptoRow.holds Tryz.pinned (OpenSpec.upto steinerMoreSpec)

/-- 'bitcastlaw32.SteinerAnswers', WHERE WHAT IT READS IS OF BULK AT MOST 1048576: true; the input reads as it did. -/
def steinerAnswersUptoRow : OpenClaim := { program := "ytmnbolcmepihlaagreat", sum := "15c7af885f4bfc1f20de99074a341a951a7f58fe99ff8f9074cf5e3770f7821b", func := "bitcast/bitcastlaw32.SteinerAnswers", spec := "steinerAnswers", unfollowed := true, recurses := true, plainKeys := false, apart := false, narrowed := true }
def SteinerAnswersUptoSaid : Prop := steinerAnswersUptoRow.holds Tryz.pinned (OpenSpec.upto steinerAnswersSpec)

/-- 'bitcastlaw32.SteinerBounds', WHERE WHAT IT READS IS OF BULK AT MOST 1048576: true; the input reads as it did. -/
def steinerBoundsUptoRow : OpenClaim := { program := "ytmnbolcmepihlaagreat", sum := "15c7af885f4bfc1f20de99074a341a951a7f58fe99ff8f9074cf5e3770f7821b", func := "bitcast/bitcastlaw32.SteinerBounds", spec := "steinerBounds", unfollowed := true, recurses := true, plainKeys := false, apart := false, narrowed := true }
def SteinerBoundsUptoSaid : Prop := steinerBoundsUptoRow.holds Tryz.pinned (OpenSpec.upto steinerBoundsSpec)

end Rows
end Go.Proofs.YtmnbolcmepihlaaGreat
