/-
  No cell of these rows narrows 'for every input' (looked for: loops, veiled, ifaces, maps, wideKeys, modest, calm, conditions, laid).
  DERIVED. THE GIVEN ROWS OF THIS SEAT. 3 by the template 'for every input the law returns true; each argument reads behind the call as it read before'; 0 by the template 'total and deterministic' (their statements: YtdjeacigeegklaaTotals.lean).
  GIVEN WITH THE SEED: the statements are not yours to turn. If you find one false, say at which input.
  Laid BY PROGRAM, IN A SANDBOX (cutbox-rows.mjs): the forced cells as the released guide's own fill.sh prints them over the translation fcd13958b897ddb8… (all of the seat's roots in one cut). By AI agents, Wed Nov 11 2026. No macro, syntax, notation, axiom, sorry.
-/
import Derived.Test.YtdjeacigeegklaaChecked
import GoSem.Claim
import GoSem.ClaimJoined
import GoSem.ClaimMapViews
import Derived.JoinedTies
import Derived.KernelRfl
namespace Go.Proofs.Ytdjeacigeegklaa
/- THE CELL 'sum', in the pinned program and in every row, IS THE sha256 OF THE DUMP (.gsa) THAT YtdjeacigeegklaaProg.lean LOADS. Nothing in Lean hashes anything: it is a label: what it is worth is what the hold of that sum in a sandbox is worth. -/
noncomputable def Try.pinned : Pinned := { name := "ytdjeacigeegklaa", sum := "fcd13958b897ddb87618524c93e42cc260af556eddabed2bf786c45a9b2db5a2", checked := Try.checked }
namespace Rows
def none {H : Type} : Left H := { results := [], args := [] }

/-- 'bitcastlaw31.EngineeredEnds': WHATEVER THE INPUT: true; the input reads as it did. -/
def engineeredEndsSpec : ChangeSpec := { name := "engineeredEnds", fn := fun _ => fun
  | [d] => { results := [.lit (.bool true)], args := [d] }
  | _ => none }
def engineeredEndsRow : OpenClaim := { program := "ytdjeacigeegklaa", sum := "fcd13958b897ddb87618524c93e42cc260af556eddabed2bf786c45a9b2db5a2", func := "bitcast/bitcastlaw31.EngineeredEnds", spec := "engineeredEnds", unfollowed := true, recurses := true, plainKeys := false, apart := false }
def EngineeredEndsSaid : Prop := engineeredEndsRow.holds Try.pinned (OpenSpec.ofChange engineeredEndsSpec)

/-- ITS FALSE NEIGHBOUR: 'it returns false'. Refute it at one input. -/
def engineeredEndsWrong : ChangeSpec := { name := "engineeredEnds", fn := fun _ => fun
  | [d] => { results := [.lit (.bool false)], args := [d] }
  | _ => none }
def EngineeredEndsWrongFalsely : Prop := engineeredEndsRow.holds Try.pinned (OpenSpec.ofChange engineeredEndsWrong)

/-- 'bitcastlaw31.EngineeredRouted': WHATEVER THE INPUT: true; the input reads as it did. -/
def engineeredRoutedSpec : ChangeSpec := { name := "engineeredRouted", fn := fun _ => fun
  | [d] => { results := [.lit (.bool true)], args := [d] }
  | _ => none }
def engineeredRoutedRow : OpenClaim := { program := "ytdjeacigeegklaa", sum := "fcd13958b897ddb87618524c93e42cc260af556eddabed2bf786c45a9b2db5a2", func := "bitcast/bitcastlaw31.EngineeredRouted", spec := "engineeredRouted", unfollowed := true, recurses := true, plainKeys := false, apart := false }
def EngineeredRoutedSaid : Prop := engineeredRoutedRow.holds Try.pinned (OpenSpec.ofChange engineeredRoutedSpec)

/-- ITS FALSE NEIGHBOUR: 'it returns false'. Refute it at one input. -/
def engineeredRoutedWrong : ChangeSpec := { name := "engineeredRouted", fn := fun _ => fun
  | [d] => { results := [.lit (.bool false)], args := [d] }
  | _ => none }
def EngineeredRoutedWrongFalsely : Prop := engineeredRoutedRow.holds Try.pinned (OpenSpec.ofChange engineeredRoutedWrong)

/-- 'bitcastlaw31.EngineeredOnce': WHATEVER THE INPUT: true; the input reads as it did. -/
def engineeredOnceSpec : ChangeSpec := { name := "engineeredOnce", fn := fun _ => fun
  | [d] => { results := [.lit (.bool true)], args := [d] }
  | _ => none }
def engineeredOnceRow : OpenClaim := { program := "ytdjeacigeegklaa", sum := "fcd13958b897ddb87618524c93e42cc260af556eddabed2bf786c45a9b2db5a2", func := "bitcast/bitcastlaw31.EngineeredOnce", spec := "engineeredOnce", unfollowed := true, recurses := true, plainKeys := false, apart := false }
def EngineeredOnceSaid : Prop := engineeredOnceRow.holds Try.pinned (OpenSpec.ofChange engineeredOnceSpec)

/-- ITS FALSE NEIGHBOUR: 'it returns false'. Refute it at one input. -/
def engineeredOnceWrong : ChangeSpec := { name := "engineeredOnce", fn := fun _ => fun
  | [d] => { results := [.lit (.bool false)], args := [d] }
  | _ => none }
def EngineeredOnceWrongFalsely : Prop := engineeredOnceRow.holds Try.pinned (OpenSpec.ofChange engineeredOnceWrong)

/- THE SECOND FORM. 'bulk': how many values and letters a reading holds, each counted each time it is reached (what is shared counts as often as it is met; a slice's spare places count too). A statement '..UptoSaid' is the law's where the arguments, and the package variables that the reading takes, are together of bulk at most 1048576: NARROWER than '..Said'. Prove '..Said' where nothing that the law and all that it calls make is longer than what came in: it says more and counts as full. Else prove '..UptoSaid'. A law counts once. -/
mutual
def uptoBulk {H : Type} : DataW H → Nat
  | .lit (.string bytes) => bytes.length + 1
  | .lit _ => 1
  | .nil => 1
  | .ptr d => uptoBulk d + 1
  | .slice elems spare => uptoBulkAll elems + uptoBulkAll spare + 1
  | .agg parts => uptoBulkAll parts + 1
  | .iface _ d => uptoBulk d + 1
  | .map entries => uptoBulkEntries entries + 1
  | .held _ => 1
def uptoBulkAll {H : Type} : List (DataW H) → Nat
  | [] => 0
  | d :: r => uptoBulk d + uptoBulkAll r
def uptoBulkEntries {H : Type} : List (Lit × DataW H) → Nat
  | [] => 0
  | x :: r => uptoBulkEntry x + uptoBulkEntries r
def uptoBulkEntry {H : Type} : Lit × DataW H → Nat
  | (.string bytes, d) => bytes.length + uptoBulk d + 1
  | (_, d) => uptoBulk d + 1
 end
def uptoSmall : (H : Type) → List (DataW H) → Bool := fun _ ds => decide (uptoBulkAll ds ≤ 1048576)
def OpenSpec.upto (s : _root_.Go.ChangeSpec) : _root_.Go.OpenSpec := { _root_.Go.OpenSpec.ofChange s with cond := some uptoSmall }

/-- 'bitcastlaw31.EngineeredEnds', WHERE WHAT IT READS IS OF BULK AT MOST 1048576: true; the input reads as it did. -/
def engineeredEndsUptoRow : OpenClaim := { program := "ytdjeacigeegklaa", sum := "fcd13958b897ddb87618524c93e42cc260af556eddabed2bf786c45a9b2db5a2", func := "bitcast/bitcastlaw31.EngineeredEnds", spec := "engineeredEnds", unfollowed := true, recurses := true, plainKeys := false, apart := false, narrowed := true }
def EngineeredEndsUptoSaid : Prop := engineeredEndsUptoRow.holds Try.pinned (OpenSpec.upto engineeredEndsSpec)

/-- 'bitcastlaw31.EngineeredRouted', WHERE WHAT IT READS IS OF BULK AT MOST 1048576: true; the input reads as it did. -/
def engineeredRoutedUptoRow : OpenClaim := { program := "ytdjeacigeegklaa", sum := "fcd13958b897ddb87618524c93e42cc260af556eddabed2bf786c45a9b2db5a2", func := "bitcast/bitcastlaw31.EngineeredRouted", spec := "engineeredRouted", unfollowed := true, recurses := true, plainKeys := false, apart := false, narrowed := true }
def EngineeredRoutedUptoSaid : Prop := engineeredRoutedUptoRow.holds Try.pinned (OpenSpec.upto engineeredRoutedSpec)

/-- 'bitcastlaw31.EngineeredOnce', WHERE WHAT IT READS IS OF BULK AT MOST 1048576: true; the input reads as it did. -/
def engineeredOnceUptoRow : OpenClaim := { program := "ytdjeacigeegklaa", sum := "fcd13958b897ddb87618524c93e42cc260af556eddabed2bf786c45a9b2db5a2", func := "bitcast/bitcastlaw31.EngineeredOnce", spec := "engineeredOnce", unfollowed := true, recurses := true, plainKeys := false, apart := false, narrowed := true }
def EngineeredOnceUptoSaid : Prop := engineeredOnceUptoRow.holds Try.pinned (OpenSpec.upto engineeredOnceSpec)

end Rows
end Go.Proofs.Ytdjeacigeegklaa
