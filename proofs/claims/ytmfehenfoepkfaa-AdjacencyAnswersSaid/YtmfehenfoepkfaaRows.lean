/-
  No cell of these rows narrows 'for every input' (looked for: loops, veiled, ifaces, maps, wideKeys, modest, calm, conditions, laid).
  DERIVED. THE GIVEN ROWS OF THIS SEAT. 4 by the template 'for every input the law returns true; each argument reads behind the call as it read before'; 0 by the template 'total and deterministic' (their statements: YtmfehenfoepkfaaTotals.lean).
  GIVEN WITH THE SEED: the statements are not yours to turn. If you find one false, say at which input.
  Laid BY PROGRAM, IN A SANDBOX (cutbox-rows.mjs): the forced cells as the released guide's own fill.sh prints them over the translation dec0aabf3e2c91d6… (all of the seat's roots in one cut). By AI agents, Wed Nov 11 2026. No macro, syntax, notation, axiom, sorry.
-/
import Derived.Test.YtmfehenfoepkfaaChecked
import GoSem.Claim
import GoSem.ClaimJoined
import GoSem.ClaimMapViews
import Derived.JoinedTies
import Derived.KernelRfl
namespace Go.Proofs.Ytmfehenfoepkfaa
/- THE CELL 'sum', in the pinned program and in every row, IS THE sha256 OF THE DUMP (.gsa) THAT YtmfehenfoepkfaaProg.lean LOADS. Nothing in Lean hashes anything: it is a label: what it is worth is what the hold of that sum in a sandbox is worth. -/
noncomputable def Try.pinned : Pinned := { name := "ytmfehenfoepkfaa", sum := "dec0aabf3e2c91d6134e42dd8a3e912b41a30b1220a5b3cce0cbdaed58a3e71c", checked := Try.checked }
namespace Rows
def none {H : Type} : Left H := { results := [], args := [] }

/-- 'bitcastlaw30.AdjacencyTrees': WHATEVER THE INPUT: true; the input reads as it did. -/
def adjacencyTreesSpec : ChangeSpec := { name := "adjacencyTrees", fn := fun _ => fun
  | [d1, d2, d3] => { results := [.lit (.bool true)], args := [d1, d2, d3] }
  | _ => none }
def adjacencyTreesRow : OpenClaim := { program := "ytmfehenfoepkfaa", sum := "dec0aabf3e2c91d6134e42dd8a3e912b41a30b1220a5b3cce0cbdaed58a3e71c", func := "bitcast/bitcastlaw30.AdjacencyTrees", spec := "adjacencyTrees", unfollowed := true, recurses := true, plainKeys := false, apart := false }
def AdjacencyTreesSaid : Prop := adjacencyTreesRow.holds Try.pinned (OpenSpec.ofChange adjacencyTreesSpec)

/-- ITS FALSE NEIGHBOUR: 'it returns false'. Refute it at one input. -/
def adjacencyTreesWrong : ChangeSpec := { name := "adjacencyTrees", fn := fun _ => fun
  | [d1, d2, d3] => { results := [.lit (.bool false)], args := [d1, d2, d3] }
  | _ => none }
def AdjacencyTreesWrongFalsely : Prop := adjacencyTreesRow.holds Try.pinned (OpenSpec.ofChange adjacencyTreesWrong)

/-- 'bitcastlaw30.AdjacencyBits': WHATEVER THE INPUT: true; the input reads as it did. -/
def adjacencyBitsSpec : ChangeSpec := { name := "adjacencyBits", fn := fun _ => fun
  | [d] => { results := [.lit (.bool true)], args := [d] }
  | _ => none }
def adjacencyBitsRow : OpenClaim := { program := "ytmfehenfoepkfaa", sum := "dec0aabf3e2c91d6134e42dd8a3e912b41a30b1220a5b3cce0cbdaed58a3e71c", func := "bitcast/bitcastlaw30.AdjacencyBits", spec := "adjacencyBits", unfollowed := true, recurses := true, plainKeys := false, apart := false }
def AdjacencyBitsSaid : Prop := adjacencyBitsRow.holds Try.pinned (OpenSpec.ofChange adjacencyBitsSpec)

/-- ITS FALSE NEIGHBOUR: 'it returns false'. Refute it at one input. -/
def adjacencyBitsWrong : ChangeSpec := { name := "adjacencyBits", fn := fun _ => fun
  | [d] => { results := [.lit (.bool false)], args := [d] }
  | _ => none }
def AdjacencyBitsWrongFalsely : Prop := adjacencyBitsRow.holds Try.pinned (OpenSpec.ofChange adjacencyBitsWrong)

/-- 'bitcastlaw30.AdjacencyOwns': WHATEVER THE INPUT: true; the input reads as it did. -/
def adjacencyOwnsSpec : ChangeSpec := { name := "adjacencyOwns", fn := fun _ => fun
  | [d] => { results := [.lit (.bool true)], args := [d] }
  | _ => none }
def adjacencyOwnsRow : OpenClaim := { program := "ytmfehenfoepkfaa", sum := "dec0aabf3e2c91d6134e42dd8a3e912b41a30b1220a5b3cce0cbdaed58a3e71c", func := "bitcast/bitcastlaw30.AdjacencyOwns", spec := "adjacencyOwns", unfollowed := true, recurses := true, plainKeys := false, apart := false }
def AdjacencyOwnsSaid : Prop := adjacencyOwnsRow.holds Try.pinned (OpenSpec.ofChange adjacencyOwnsSpec)

/-- ITS FALSE NEIGHBOUR: 'it returns false'. Refute it at one input. -/
def adjacencyOwnsWrong : ChangeSpec := { name := "adjacencyOwns", fn := fun _ => fun
  | [d] => { results := [.lit (.bool false)], args := [d] }
  | _ => none }
def AdjacencyOwnsWrongFalsely : Prop := adjacencyOwnsRow.holds Try.pinned (OpenSpec.ofChange adjacencyOwnsWrong)

/-- 'bitcastlaw30.AdjacencyAnswers': WHATEVER THE INPUT: true; the input reads as it did. -/
def adjacencyAnswersSpec : ChangeSpec := { name := "adjacencyAnswers", fn := fun _ => fun
  | [d1, d2, d3, d4, d5, d6] => { results := [.lit (.bool true)], args := [d1, d2, d3, d4, d5, d6] }
  | _ => none }
def adjacencyAnswersRow : OpenClaim := { program := "ytmfehenfoepkfaa", sum := "dec0aabf3e2c91d6134e42dd8a3e912b41a30b1220a5b3cce0cbdaed58a3e71c", func := "bitcast/bitcastlaw30.AdjacencyAnswers", spec := "adjacencyAnswers", unfollowed := true, recurses := true, plainKeys := false, apart := false }
def AdjacencyAnswersSaid : Prop := adjacencyAnswersRow.holds Try.pinned (OpenSpec.ofChange adjacencyAnswersSpec)

/-- ITS FALSE NEIGHBOUR: 'it returns false'. Refute it at one input. -/
def adjacencyAnswersWrong : ChangeSpec := { name := "adjacencyAnswers", fn := fun _ => fun
  | [d1, d2, d3, d4, d5, d6] => { results := [.lit (.bool false)], args := [d1, d2, d3, d4, d5, d6] }
  | _ => none }
def AdjacencyAnswersWrongFalsely : Prop := adjacencyAnswersRow.holds Try.pinned (OpenSpec.ofChange adjacencyAnswersWrong)

/- THE SECOND FORM. 'bulk': how many values and letters a reading holds, each counted each time it is reached (what is shared counts as often as it is met; a slice's spare places count too). A statement '..UptoSaid' is the law's where the arguments, and the package variables that the reading takes, are together of bulk at most 1048576: NARROWER than '..Said'. Prove '..Said' where nothing that the law and all that it calls make is longer than what came in: it says more and counts as full. Else prove '..UptoSaid'. A law counts once. -/
mutual
def uptoBulk {H : Type} : DataW H → Nat
  | .lit (.string bytes) => bytes.length + 1
  | .lit _ => 1
  | .nil => 1
  | .ptr d => uptoBulk d + 1
  | .slice elems spare => uptoBulkAll elems + uptoBulkAll spare + 1
  | .agg parts => uptoBulkAll parts + 1
  | .iface _ d => uptoBulk d + 1
  | .map entries => uptoBulkEntries entries + 1
  | .held _ => 1
def uptoBulkAll {H : Type} : List (DataW H) → Nat
  | [] => 0
  | d :: r => uptoBulk d + uptoBulkAll r
def uptoBulkEntries {H : Type} : List (Lit × DataW H) → Nat
  | [] => 0
  | x :: r => uptoBulkEntry x + uptoBulkEntries r
def uptoBulkEntry {H : Type} : Lit × DataW H → Nat
  | (.string bytes, d) => bytes.length + uptoBulk d + 1
  | (_, d) => uptoBulk d + 1
 end
def uptoSmall : (H : Type) → List (DataW H) → Bool := fun _ ds => decide (uptoBulkAll ds ≤ 1048576)
def OpenSpec.upto (s : _root_.Go.ChangeSpec) : _root_.Go.OpenSpec := { _root_.Go.OpenSpec.ofChange s with cond := some uptoSmall }

/-- 'bitcastlaw30.AdjacencyTrees', WHERE WHAT IT READS IS OF BULK AT MOST 1048576: true; the input reads as it did. -/
def adjacencyTreesUptoRow : OpenClaim := { program := "ytmfehenfoepkfaa", sum := "dec0aabf3e2c91d6134e42dd8a3e912b41a30b1220a5b3cce0cbdaed58a3e71c", func := "bitcast/bitcastlaw30.AdjacencyTrees", spec := "adjacencyTrees", unfollowed := true, recurses := true, plainKeys := false, apart := false, narrowed := true }
def AdjacencyTreesUptoSaid : Prop := adjacencyTreesUptoRow.holds Try.pinned (OpenSpec.upto adjacencyTreesSpec)

/-- 'bitcastlaw30.AdjacencyBits', WHERE WHAT IT READS IS OF BULK AT MOST 1048576: true; the input reads as it did. -/
def adjacencyBitsUptoRow : OpenClaim := { program := "ytmfehenfoepkfaa", sum := "dec0aabf3e2c91d6134e42dd8a3e912b41a30b1220a5b3cce0cbdaed58a3e71c", func := "bitcast/bitcastlaw30.AdjacencyBits", spec := "adjacencyBits", unfollowed := true, recurses := true, plainKeys := false, apart := false, narrowed := true }
def AdjacencyBitsUptoSaid : Prop := adjacencyBitsUptoRow.holds Try.pinned (OpenSpec.upto adjacencyBitsSpec)

/-- 'bitcastlaw30.AdjacencyOwns', WHERE WHAT IT READS IS OF BULK AT MOST 1048576: true; the input reads as it did. -/
def adjacencyOwnsUptoRow : OpenClaim := { program := "ytmfehenfoepkfaa", sum := "dec0aabf3e2c91d6134e42dd8a3e912b41a30b1220a5b3cce0cbdaed58a3e71c", func := "bitcast/bitcastlaw30.AdjacencyOwns", spec := "adjacencyOwns", unfollowed := true, recurses := true, plainKeys := false, apart := false, narrowed := true }
def AdjacencyOwnsUptoSaid : Prop := adjacencyOwnsUptoRow.holds Try.pinned (OpenSpec.upto adjacencyOwnsSpec)

/-- 'bitcastlaw30.AdjacencyAnswers', WHERE WHAT IT READS IS OF BULK AT MOST 1048576: true; the input reads as it did. -/
def adjacencyAnswersUptoRow : OpenClaim := { program := "ytmfehenfoepkfaa", sum := "dec0aabf3e2c91d6134e42dd8a3e912b41a30b1220a5b3cce0cbdaed58a3e71c", func := "bitcast/bitcastlaw30.AdjacencyAnswers", spec := "adjacencyAnswers", unfollowed := true, recurses := true, plainKeys := false, apart := false, narrowed := true }
def AdjacencyAnswersUptoSaid : Prop := adjacencyAnswersUptoRow.holds Try.pinned (OpenSpec.upto adjacencyAnswersSpec)

end Rows
end Go.Proofs.Ytmfehenfoepkfaa
