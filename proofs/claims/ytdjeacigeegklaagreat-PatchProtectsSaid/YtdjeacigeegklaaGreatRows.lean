/-
  No cell of these rows narrows 'for every input' (looked for: loops, veiled, ifaces, maps, wideKeys, modest, calm, conditions, laid).
  DERIVED. THE GIVEN ROWS OF THIS SEAT. 6 by the template 'for every input the law returns true; each argument reads behind the call as it read before'; 0 by the template 'total and deterministic' (their statements: YtdjeacigeegklaaGreatTotals.lean).
  GIVEN WITH THE SEED: the statements are not yours to turn. If you find one false, say at which input.
  Laid BY PROGRAM, IN A SANDBOX (cutbox-rows.mjs): the forced cells as the released guide's own fill.sh prints them over the translation 7a6141146edb2690… (all of the seat's roots in one cut). By AI agents, Wed Nov 11 2026. No macro, syntax, notation, axiom, sorry.
-/
import Derived.Test.YtdjeacigeegklaaGreatChecked
import GoSem.Claim
import GoSem.ClaimJoined
import GoSem.ClaimMapViews
import Derived.JoinedTies
import Derived.KernelRfl
namespace Go.Proofs.YtdjeacigeegklaaGreat
/- THE CELL 'sum', in the pinned program and in every row, IS THE sha256 OF THE DUMP (.gsa) THAT YtdjeacigeegklaaGreatProg.lean LOADS. Nothing in Lean hashes anything: it is a label: what it is worth is what the hold of that sum in a sandbox is worth. -/
noncomputable def Tryz.pinned : Pinned := { name := "ytdjeacigeegklaagreat", sum := "7a6141146edb269067a53190973dbdb6f8b33d73d2d67766412f10ce3be4542f", checked := Tryz.checked }
namespace Rows
def none {H : Type} : Left H := { results := [], args := [] }

/-- 'bitcastlaw34.PatchLocal': WHATEVER THE INPUT: true; the input reads as it did. -/
def patchLocalSpec : ChangeSpec := { name := "patchLocal", fn := fun _ => fun
  | [d] => { results := [.lit (.bool true)], args := [d] }
  | _ => none }
def patchLocalRow : OpenClaim := { program := "ytdjeacigeegklaagreat", sum := "7a6141146edb269067a53190973dbdb6f8b33d73d2d67766412f10ce3be4542f", func := "bitcast/bitcastlaw34.PatchLocal", spec := "patchLocal", unfollowed := true, recurses := true, plainKeys := false, apart := false }
def PatchLocalSaid : Prop := patchLocalRow.holds Tryz.pinned (OpenSpec.ofChange patchLocalSpec)

/-- ITS FALSE NEIGHBOUR: 'it returns false'. Refute it at one input. -/
def patchLocalWrong : ChangeSpec := { name := "patchLocal", fn := fun _ => fun
  | [d] => { results := [.lit (.bool false)], args := [d] }
  | _ => none }
def PatchLocalWrongFalsely : Prop := patchLocalRow.holds Tryz.pinned (OpenSpec.ofChange patchLocalWrong)

/-- 'bitcastlaw31.EngineeredTree': WHATEVER THE INPUT: true; the input reads as it did. -/
def engineeredTreeSpec : ChangeSpec := { name := "engineeredTree", fn := fun _ => fun
  | [d] => { results := [.lit (.bool true)], args := [d] }
  | _ => none }
def engineeredTreeRow : OpenClaim := { program := "ytdjeacigeegklaagreat", sum := "7a6141146edb269067a53190973dbdb6f8b33d73d2d67766412f10ce3be4542f", func := "bitcast/bitcastlaw31.EngineeredTree", spec := "engineeredTree", unfollowed := true, recurses := true, plainKeys := false, apart := false }
def EngineeredTreeSaid : Prop := engineeredTreeRow.holds Tryz.pinned (OpenSpec.ofChange engineeredTreeSpec)

/-- ITS FALSE NEIGHBOUR: 'it returns false'. Refute it at one input. -/
def engineeredTreeWrong : ChangeSpec := { name := "engineeredTree", fn := fun _ => fun
  | [d] => { results := [.lit (.bool false)], args := [d] }
  | _ => none }
def EngineeredTreeWrongFalsely : Prop := engineeredTreeRow.holds Tryz.pinned (OpenSpec.ofChange engineeredTreeWrong)

/-- 'bitcastlaw31.EngineeredAnswers': WHATEVER THE INPUT: true; the input reads as it did. -/
def engineeredAnswersSpec : ChangeSpec := { name := "engineeredAnswers", fn := fun _ => fun
  | [d1, d2, d3, d4, d5, d6] => { results := [.lit (.bool true)], args := [d1, d2, d3, d4, d5, d6] }
  | _ => none }
def engineeredAnswersRow : OpenClaim := { program := "ytdjeacigeegklaagreat", sum := "7a6141146edb269067a53190973dbdb6f8b33d73d2d67766412f10ce3be4542f", func := "bitcast/bitcastlaw31.EngineeredAnswers", spec := "engineeredAnswers", unfollowed := true, recurses := true, plainKeys := false, apart := false }
def EngineeredAnswersSaid : Prop := engineeredAnswersRow.holds Tryz.pinned (OpenSpec.ofChange engineeredAnswersSpec)

/-- ITS FALSE NEIGHBOUR: 'it returns false'. Refute it at one input. -/
def engineeredAnswersWrong : ChangeSpec := { name := "engineeredAnswers", fn := fun _ => fun
  | [d1, d2, d3, d4, d5, d6] => { results := [.lit (.bool false)], args := [d1, d2, d3, d4, d5, d6] }
  | _ => none }
def EngineeredAnswersWrongFalsely : Prop := engineeredAnswersRow.holds Tryz.pinned (OpenSpec.ofChange engineeredAnswersWrong)

/-- 'bitcastlaw34.PatchAnswers': WHATEVER THE INPUT: true; the input reads as it did. -/
def patchAnswersSpec : ChangeSpec := { name := "patchAnswers", fn := fun _ => fun
  | [d1, d2, d3, d4, d5, d6, d7] => { results := [.lit (.bool true)], args := [d1, d2, d3, d4, d5, d6, d7] }
  | _ => none }
def patchAnswersRow : OpenClaim := { program := "ytdjeacigeegklaagreat", sum := "7a6141146edb269067a53190973dbdb6f8b33d73d2d67766412f10ce3be4542f", func := "bitcast/bitcastlaw34.PatchAnswers", spec := "patchAnswers", unfollowed := true, recurses := true, plainKeys := false, apart := false }
def PatchAnswersSaid : Prop := patchAnswersRow.holds Tryz.pinned (OpenSpec.ofChange patchAnswersSpec)

/-- ITS FALSE NEIGHBOUR: 'it returns false'. Refute it at one input. -/
def patchAnswersWrong : ChangeSpec := { name := "patchAnswers", fn := fun _ => fun
  | [d1, d2, d3, d4, d5, d6, d7] => { results := [.lit (.bool false)], args := [d1, d2, d3, d4, d5, d6, d7] }
  | _ => none }
def PatchAnswersWrongFalsely : Prop := patchAnswersRow.holds Tryz.pinned (OpenSpec.ofChange patchAnswersWrong)

/-- 'bitcastlaw34.PatchProtects': WHATEVER THE INPUT: true; the input reads as it did. -/
def patchProtectsSpec : ChangeSpec := { name := "patchProtects", fn := fun _ => fun
  | [d] => { results := [.lit (.bool true)], args := [d] }
  | _ => none }
def patchProtectsRow : OpenClaim := { program := "ytdjeacigeegklaagreat", sum := "7a6141146edb269067a53190973dbdb6f8b33d73d2d67766412f10ce3be4542f", func := "bitcast/bitcastlaw34.PatchProtects", spec := "patchProtects", unfollowed := true, recurses := true, plainKeys := false, apart := false }
def PatchProtectsSaid : Prop := patchProtectsRow.holds Tryz.pinned (OpenSpec.ofChange patchProtectsSpec)

/-- ITS FALSE NEIGHBOUR: 'it returns false'. Refute it at one input. -/
def patchProtectsWrong : ChangeSpec := { name := "patchProtects", fn := fun _ => fun
  | [d] => { results := [.lit (.bool false)], args := [d] }
  | _ => none }
def PatchProtectsWrongFalsely : Prop := patchProtectsRow.holds Tryz.pinned (OpenSpec.ofChange patchProtectsWrong)

/-- 'bitcastlaw34.PatchQuiet': WHATEVER THE INPUT: true; the input reads as it did. -/
def patchQuietSpec : ChangeSpec := { name := "patchQuiet", fn := fun _ => fun
  | [d] => { results := [.lit (.bool true)], args := [d] }
  | _ => none }
def patchQuietRow : OpenClaim := { program := "ytdjeacigeegklaagreat", sum := "7a6141146edb269067a53190973dbdb6f8b33d73d2d67766412f10ce3be4542f", func := "bitcast/bitcastlaw34.PatchQuiet", spec := "patchQuiet", unfollowed := true, recurses := true, plainKeys := false, apart := false }
def PatchQuietSaid : Prop := patchQuietRow.holds Tryz.pinned (OpenSpec.ofChange patchQuietSpec)

/-- ITS FALSE NEIGHBOUR: 'it returns false'. Refute it at one input. -/
def patchQuietWrong : ChangeSpec := { name := "patchQuiet", fn := fun _ => fun
  | [d] => { results := [.lit (.bool false)], args := [d] }
  | _ => none }
def PatchQuietWrongFalsely : Prop := patchQuietRow.holds Tryz.pinned (OpenSpec.ofChange patchQuietWrong)

/- THE SECOND FORM. 'bulk': how many values and letters a reading holds, each counted each time it is reached (what is shared counts as often as it is met; a slice's spare places count too). A statement '..UptoSaid' is the law's where the arguments, and the package variables that the reading takes, are together of bulk at most 1048576: NARROWER than '..Said'. Prove '..Said' where nothing that the law and all that it calls make is longer than what came in: it says more and counts as full. Else prove '..UptoSaid'. A law counts once. -/
mutual
def uptoBulk {H : Type} : DataW H → Nat
  | .lit (.string bytes) => bytes.length + 1
  | .lit _ => 1
  | .nil => 1
  | .ptr d => uptoBulk d + 1
  | .slice elems spare => uptoBulkAll elems + uptoBulkAll spare + 1
  | .agg parts => uptoBulkAll parts + 1
  | .iface _ d => uptoBulk d + 1
  | .map entries => uptoBulkEntries entries + 1
  | .held _ => 1
def uptoBulkAll {H : Type} : List (DataW H) → Nat
  | [] => 0
  | d :: r => uptoBulk d + uptoBulkAll r
def uptoBulkEntries {H : Type} : List (Lit × DataW H) → Nat
  | [] => 0
  | x :: r => uptoBulkEntry x + uptoBulkEntries r
def uptoBulkEntry {H : Type} : Lit × DataW H → Nat
  | (.string bytes, d) => bytes.length + uptoBulk d + 1
  | (_, d) => uptoBulk d + 1
 end
def uptoSmall : (H : Type) → List (DataW H) → Bool := fun _ ds => decide (uptoBulkAll ds ≤ 1048576)
def OpenSpec.upto (s : _root_.Go.ChangeSpec) : _root_.Go.OpenSpec := { _root_.Go.OpenSpec.ofChange s with cond := some uptoSmall }

/-- 'bitcastlaw34.PatchLocal', WHERE WHAT IT READS IS OF BULK AT MOST 1048576: true; the input reads as it did. -/
def patchLocalUptoRow : OpenClaim := { program := "ytdjeacigeegklaagreat", sum := "7a6141146edb269067a53190973dbdb6f8b33d73d2d67766412f10ce3be4542f", func := "bitcast/bitcastlaw34.PatchLocal", spec := "patchLocal", unfollowed := true, recurses := true, plainKeys := false, apart := false, narrowed := true }
def PatchLocalUptoSaid : Prop := patchLocalUptoRow.holds Tryz.pinned (OpenSpec.upto patchLocalSpec)

/-- 'bitcastlaw31.EngineeredTree', WHERE WHAT IT READS IS OF BULK AT MOST 1048576: true; the input reads as it did. -/
def engineeredTreeUptoRow : OpenClaim := { program := "ytdjeacigeegklaagreat", sum := "7a6141146edb269067a53190973dbdb6f8b33d73d2d67766412f10ce3be4542f", func := "bitcast/bitcastlaw31.EngineeredTree", spec := "engineeredTree", unfollowed := true, recurses := true, plainKeys := false, apart := false, narrowed := true }
def EngineeredTreeUptoSaid : Prop := engineeredTreeUptoRow.holds Tryz.pinned (OpenSpec.upto engineeredTreeSpec)

/-- 'bitcastlaw31.EngineeredAnswers', WHERE WHAT IT READS IS OF BULK AT MOST 1048576: true; the input reads as it did. -/
def engineeredAnswersUptoRow : OpenClaim := { program := "ytdjeacigeegklaagreat", sum := "7a6141146edb269067a53190973dbdb6f8b33d73d2d67766412f10ce3be4542f", func := "bitcast/bitcastlaw31.EngineeredAnswers", spec := "engineeredAnswers", unfollowed := true, recurses := true, plainKeys := false, apart := false, narrowed := true }
def EngineeredAnswersUptoSaid : Prop := engineeredAnswersUptoRow.holds Tryz.pinned (OpenSpec.upto engineeredAnswersSpec)

/-- 'bitcastlaw34.PatchAnswers', WHERE WHAT IT READS IS OF BULK AT MOST 1048576: true; the input reads as it did. -/
def patchAnswersUptoRow : OpenClaim := { program := "ytdjeacigeegklaagreat", sum := "7a6141146edb269067a53190973dbdb6f8b33d73d2d67766412f10ce3be4542f", func := "bitcast/bitcastlaw34.PatchAnswers", spec := "patchAnswers", unfollowed := true, recurses := true, plainKeys := false, apart := false, narrowed := true }
def PatchAnswersUptoSaid : Prop := patchAnswersUptoRow.holds Tryz.pinned (OpenSpec.upto patchAnswersSpec)

/-- 'bitcastlaw34.PatchProtects', WHERE WHAT IT READS IS OF BULK AT MOST 1048576: true; the input reads as it did. -/
def patchProtectsUptoRow : OpenClaim := { program := "ytdjeacigeegklaagreat", sum := "7a6141146edb269067a53190973dbdb6f8b33d73d2d67766412f10ce3be4542f", func := "bitcast/bitcastlaw34.PatchProtects", spec := "patchProtects", unfollowed := true, recurses := true, plainKeys := false, apart := false, narrowed := true }
def PatchProtectsUptoSaid : Prop := patchProtectsUptoRow.holds Tryz.pinned (OpenSpec.upto patchProtectsSpec)

/-- 'bitcastlaw34.PatchQuiet', WHERE WHAT IT READS IS OF BULK AT MOST 1048576: true; the input reads as it did. -/
def patchQuietUptoRow : OpenClaim := { program := "ytdjeacigeegklaagreat", sum := "7a6141146edb269067a53190973dbdb6f8b33d73d2d67766412f10ce3be4542f", func := "bitcast/bitcastlaw34.PatchQuiet", spec := "patchQuiet", unfollowed := true, recurses := true, plainKeys := false, apart := false, narrowed := true }
def PatchQuietUptoSaid : Prop := patchQuietUptoRow.holds Tryz.pinned (OpenSpec.upto patchQuietSpec)

end Rows
end Go.Proofs.YtdjeacigeegklaaGreat
