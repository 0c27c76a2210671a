/-
  No cell of these rows narrows 'for every input' (looked for: loops, veiled, ifaces, maps, wideKeys, modest, calm, conditions, laid).
  DERIVED. THE GIVEN ROWS OF THIS SEAT. 4 by the template 'for every input the law returns true; each argument reads behind the call as it read before'; 0 by the template 'total and deterministic' (their statements: YtmcjffllahcclaaGreatTotals.lean).
  GIVEN WITH THE SEED: the statements are not yours to turn. If you find one false, say at which input.
  Laid BY PROGRAM, IN A SANDBOX (cutbox-rows.mjs): the forced cells as the released guide's own fill.sh prints them over the translation 6eb08d55175550a0… (all of the seat's roots in one cut). By AI agents, Wed Nov 11 2026. No macro, syntax, notation, axiom, sorry.
-/
import Derived.Test.YtmcjffllahcclaaGreatChecked
import GoSem.Claim
import GoSem.ClaimJoined
import GoSem.ClaimMapViews
import Derived.JoinedTies
import Derived.KernelRfl
namespace Go.Proofs.YtmcjffllahcclaaGreat
/- THE CELL 'sum', in the pinned program and in every row, IS THE sha256 OF THE DUMP (.gsa) THAT YtmcjffllahcclaaGreatProg.lean LOADS. Nothing in Lean hashes anything: it is a label: what it is worth is what the hold of that sum in a sandbox is worth. -/
noncomputable def Tryz.pinned : Pinned := { name := "ytmcjffllahcclaagreat", sum := "6eb08d55175550a0b6c979860a523abb34790d7bc5f4f1d181f5164c1a152940", checked := Tryz.checked }
namespace Rows
def none {H : Type} : Left H := { results := [], args := [] }

/-- 'bitcastlaw08.DatabasePuts': WHATEVER THE INPUT: true; the input reads as it did. -/
def databasePutsSpec : ChangeSpec := { name := "databasePuts", fn := fun _ => fun
  | [d1, d2, d3] => { results := [.lit (.bool true)], args := [d1, d2, d3] }
  | _ => none }
def databasePutsRow : OpenClaim := { program := "ytmcjffllahcclaagreat", sum := "6eb08d55175550a0b6c979860a523abb34790d7bc5f4f1d181f5164c1a152940", func := "bitcast/bitcastlaw08.DatabasePuts", spec := "databasePuts", inPlace := ["slices.overlaps[bitcast/api.Advert]", "internal/bytealg.Compare"], unfollowed := true, recurses := true, apart := false }
def DatabasePutsSaid : Prop := databasePutsRow.holds Tryz.pinned (OpenSpec.ofChange databasePutsSpec)

/-- ITS FALSE NEIGHBOUR: 'it returns false'. Refute it at one input. -/
def databasePutsWrong : ChangeSpec := { name := "databasePuts", fn := fun _ => fun
  | [d1, d2, d3] => { results := [.lit (.bool false)], args := [d1, d2, d3] }
  | _ => none }
def DatabasePutsWrongFalsely : Prop := databasePutsRow.holds Tryz.pinned (OpenSpec.ofChange databasePutsWrong)

/-- 'bitcastlaw08.DatabaseOf': WHATEVER THE INPUT: true; the input reads as it did. -/
def databaseOfSpec : ChangeSpec := { name := "databaseOf", fn := fun _ => fun
  | [d] => { results := [.lit (.bool true)], args := [d] }
  | _ => none }
def databaseOfRow : OpenClaim := { program := "ytmcjffllahcclaagreat", sum := "6eb08d55175550a0b6c979860a523abb34790d7bc5f4f1d181f5164c1a152940", func := "bitcast/bitcastlaw08.DatabaseOf", spec := "databaseOf", inPlace := ["slices.overlaps[bitcast/api.Advert]", "internal/bytealg.Compare"], unfollowed := true, recurses := true, apart := false }
def DatabaseOfSaid : Prop := databaseOfRow.holds Tryz.pinned (OpenSpec.ofChange databaseOfSpec)

/-- ITS FALSE NEIGHBOUR: 'it returns false'. Refute it at one input. -/
def databaseOfWrong : ChangeSpec := { name := "databaseOf", fn := fun _ => fun
  | [d] => { results := [.lit (.bool false)], args := [d] }
  | _ => none }
def DatabaseOfWrongFalsely : Prop := databaseOfRow.holds Tryz.pinned (OpenSpec.ofChange databaseOfWrong)

/-- 'bitcastlaw08.DatabaseMerges': WHATEVER THE INPUT: true; the input reads as it did. -/
def databaseMergesSpec : ChangeSpec := { name := "databaseMerges", fn := fun _ => fun
  | [d] => { results := [.lit (.bool true)], args := [d] }
  | _ => none }
def databaseMergesRow : OpenClaim := { program := "ytmcjffllahcclaagreat", sum := "6eb08d55175550a0b6c979860a523abb34790d7bc5f4f1d181f5164c1a152940", func := "bitcast/bitcastlaw08.DatabaseMerges", spec := "databaseMerges", inPlace := ["slices.overlaps[bitcast/api.Advert]", "internal/bytealg.Compare"], unfollowed := true, recurses := true, apart := false }
def DatabaseMergesSaid : Prop := databaseMergesRow.holds Tryz.pinned (OpenSpec.ofChange databaseMergesSpec)

/-- ITS FALSE NEIGHBOUR: 'it returns false'. Refute it at one input. -/
def databaseMergesWrong : ChangeSpec := { name := "databaseMerges", fn := fun _ => fun
  | [d] => { results := [.lit (.bool false)], args := [d] }
  | _ => none }
def DatabaseMergesWrongFalsely : Prop := databaseMergesRow.holds Tryz.pinned (OpenSpec.ofChange databaseMergesWrong)

/-- 'bitcastlaw08.DatabaseGrows': WHATEVER THE INPUT: true; the input reads as it did. -/
def databaseGrowsSpec : ChangeSpec := { name := "databaseGrows", fn := fun _ => fun
  | [d] => { results := [.lit (.bool true)], args := [d] }
  | _ => none }
def databaseGrowsRow : OpenClaim := { program := "ytmcjffllahcclaagreat", sum := "6eb08d55175550a0b6c979860a523abb34790d7bc5f4f1d181f5164c1a152940", func := "bitcast/bitcastlaw08.DatabaseGrows", spec := "databaseGrows", inPlace := ["slices.overlaps[bitcast/api.Advert]", "internal/bytealg.Compare"], unfollowed := true, recurses := true, apart := false }
def DatabaseGrowsSaid : Prop := databaseGrowsRow.holds Tryz.pinned (OpenSpec.ofChange databaseGrowsSpec)

/-- ITS FALSE NEIGHBOUR: 'it returns false'. Refute it at one input. -/
def databaseGrowsWrong : ChangeSpec := { name := "databaseGrows", fn := fun _ => fun
  | [d] => { results := [.lit (.bool false)], args := [d] }
  | _ => none }
def DatabaseGrowsWrongFalsely : Prop := databaseGrowsRow.holds Tryz.pinned (OpenSpec.ofChange databaseGrowsWrong)

/- THE SECOND FORM. 'bulk': how many values and letters a reading holds, each counted each time it is reached (what is shared counts as often as it is met; a slice's spare places count too). A statement '..UptoSaid' is the law's where the arguments, and the package variables that the reading takes, are together of bulk at most 1048576: NARROWER than '..Said'. Prove '..Said' where nothing that the law and all that it calls make is longer than what came in: it says more and counts as full. Else prove '..UptoSaid'. A law counts once. -/
mutual
def uptoBulk {H : Type} : DataW H → Nat
  | .lit (.string bytes) => bytes.length + 1
  | .lit _ => 1
  | .nil => 1
  | .ptr d => uptoBulk d + 1
  | .slice elems spare => uptoBulkAll elems + uptoBulkAll spare + 1
  | .agg parts => uptoBulkAll parts + 1
  | .iface _ d => uptoBulk d + 1
  | .map entries => uptoBulkEntries entries + 1
  | .held _ => 1
def uptoBulkAll {H : Type} : List (DataW H) → Nat
  | [] => 0
  | d :: r => uptoBulk d + uptoBulkAll r
def uptoBulkEntries {H : Type} : List (Lit × DataW H) → Nat
  | [] => 0
  | x :: r => uptoBulkEntry x + uptoBulkEntries r
def uptoBulkEntry {H : Type} : Lit × DataW H → Nat
  | (.string bytes, d) => bytes.length + uptoBulk d + 1
  | (_, d) => uptoBulk d + 1
 end
def uptoSmall : (H : Type) → List (DataW H) → Bool := fun _ ds => decide (uptoBulkAll ds ≤ 1048576)
def OpenSpec.upto (s : _root_.Go.ChangeSpec) : _root_.Go.OpenSpec := { _root_.Go.OpenSpec.ofChange s with cond := some uptoSmall }

/-- 'bitcastlaw08.DatabasePuts', WHERE WHAT IT READS IS OF BULK AT MOST 1048576: true; the input reads as it did. -/
def databasePutsUptoRow : OpenClaim := { program := "ytmcjffllahcclaagreat", sum := "6eb08d55175550a0b6c979860a523abb34790d7bc5f4f1d181f5164c1a152940", func := "bitcast/bitcastlaw08.DatabasePuts", spec := "databasePuts", inPlace := ["slices.overlaps[bitcast/api.Advert]", "internal/bytealg.Compare"], unfollowed := true, recurses := true, apart := false, narrowed := true }
def DatabasePutsUptoSaid : Prop := databasePutsUptoRow.holds Tryz.pinned (OpenSpec.upto databasePutsSpec)

/-- 'bitcastlaw08.DatabaseOf', WHERE WHAT IT READS IS OF BULK AT MOST 1048576: true; the input reads as it did. -/
def databaseOfUptoRow : OpenClaim := { program := "ytmcjffllahcclaagreat", sum := "6eb08d55175550a0b6c979860a523abb34790d7bc5f4f1d181f5164c1a152940", func := "bitcast/bitcastlaw08.DatabaseOf", spec := "databaseOf", inPlace := ["slices.overlaps[bitcast/api.Advert]", "internal/bytealg.Compare"], unfollowed := true, recurses := true, apart := false, narrowed := true }
def DatabaseOfUptoSaid : Prop := databaseOfUptoRow.holds Tryz.pinned (OpenSpec.upto databaseOfSpec)

/-- 'bitcastlaw08.DatabaseMerges', WHERE WHAT IT READS IS OF BULK AT MOST 1048576: true; the input reads as it did. -/
def databaseMergesUptoRow : OpenClaim := { program := "ytmcjffllahcclaagreat", sum := "6eb08d55175550a0b6c979860a523abb34790d7bc5f4f1d181f5164c1a152940", func := "bitcast/bitcastlaw08.DatabaseMerges", spec := "databaseMerges", inPlace := ["slices.overlaps[bitcast/api.Advert]", "internal/bytealg.Compare"], unfollowed := true, recurses := true, apart := false, narrowed := true }
def DatabaseMergesUptoSaid : Prop := databaseMergesUptoRow.holds Tryz.pinned (OpenSpec.upto databaseMergesSpec)

/-- 'bitcastlaw08.DatabaseGrows', WHERE WHAT IT READS IS OF BULK AT MOST 1048576: true; the input reads as it did. -/
def databaseGrowsUptoRow : OpenClaim := { program := "ytmcjffllahcclaagreat", sum := "6eb08d55175550a0b6c979860a523abb34790d7bc5f4f1d181f5164c1a152940", func := "bitcast/bitcastlaw08.DatabaseGrows", spec := "databaseGrows", inPlace := ["slices.overlaps[bitcast/api.Advert]", "internal/bytealg.Compare"], unfollowed := true, recurses := true, apart := false, narrowed := true }
def DatabaseGrowsUptoSaid : Prop := databaseGrowsUptoRow.holds Tryz.pinned (OpenSpec.upto databaseGrowsSpec)

end Rows
end Go.Proofs.YtmcjffllahcclaaGreat
