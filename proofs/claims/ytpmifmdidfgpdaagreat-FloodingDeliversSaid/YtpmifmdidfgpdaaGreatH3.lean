/- The law z6 returns true for every input, and leaves the input as it was. No condition. -/
import Derived.Test.YtpmifmdidfgpdaaGreatB6
import Derived.Test.YtpmifmdidfgpdaaGreatVL3
import Derived.Test.YtpmifmdidfgpdaaGreatPD9
namespace Go.Proofs.YtpmifmdidfgpdaaGreat
set_option linter.all false
open Go Go.ChangeShapes Go.WideShapes Go.ChangeAt Go.RowKit
set_option maxRecDepth 100000
theorem nH : Opn Tryz.prog 3 bJ.enc bJ.sz := adO Tryz.underlying3 (by kernel_rfl)
theorem auJ : Opn Tryz.prog 22 (eL bJ).enc (eL bJ).sz := oy (e := bJ) Tryz.underlying22 (by kernel_rfl) nH (by decide)
theorem auK : Opn Tryz.prog 85 aS.enc aS.sz := (lI Tryz.underlying85 (by kernel_rfl) (by kernel_rfl) (dh nH (dh nH (dh nH oz)))).iso (fun p => bz.mk p.1 p.2.1 p.2.2.1) (fun _ => rfl)
theorem ajZ : Opn Tryz.prog 48 (eL aS).enc (eL aS).sz := oy (e := aS) Tryz.underlying48 (by kernel_rfl) auK (by decide)
theorem aqq : Opn Tryz.prog 106 bh.enc bh.sz := (lI Tryz.underlying106 (by kernel_rfl) (by kernel_rfl) (dh nH (dh nH (dh nH oz)))).iso (fun p => bu.mk p.1 p.2.1 p.2.2.1) (fun _ => rfl)
theorem auL : Opn Tryz.prog 47 (eL bh).enc (eL bh).sz := oy (e := bh) Tryz.underlying47 (by kernel_rfl) aqq (by decide)
theorem aqr : Opn Tryz.prog 4 aiN.enc aiN.sz := ah3 Tryz.underlying4 (by kernel_rfl)
theorem auM : Opn Tryz.prog 50 aI.enc aI.sz := (lI Tryz.underlying50 (by kernel_rfl) (by kernel_rfl) (dh nH (dh nH (dh aqr (dh auL (dh ajZ oz)))))).iso (fun p => ak.mk p.1 p.2.1 p.2.2.1 p.2.2.2.1 p.2.2.2.2.1) (fun _ => rfl)
theorem auN : Opn Tryz.prog 58 (eL aI).enc (eL aI).sz := oy (e := aI) Tryz.underlying58 (by kernel_rfl) auM (by decide)
theorem aj0 : Opn Tryz.prog 60 aar.enc aar.sz := (lI Tryz.underlying60 (by kernel_rfl) (by kernel_rfl) (dh auN oz)).iso (fun p => aD.mk p.1) (fun _ => rfl)
theorem auO : Opn Tryz.prog 62 aF.enc aF.sz := (lI Tryz.underlying62 (by kernel_rfl) (by kernel_rfl) (dh nH (dh nH (dh aj0 oz)))).iso (fun p => br.mk p.1 p.2.1 p.2.2.1) (fun _ => rfl)
theorem auP : Opn Tryz.prog 25 (eL aF).enc (eL aF).sz := oy (e := aF) Tryz.underlying25 (by kernel_rfl) auO (by decide)
theorem auQ : Opn Tryz.prog 81 aN.enc aN.sz := (lI Tryz.underlying81 (by kernel_rfl) (by kernel_rfl) (dh nH (dh nH (dh aqr (dh ajZ (dh aj0 oz)))))).iso (fun p => aZ.mk p.1 p.2.1 p.2.2.1 p.2.2.2.1 p.2.2.2.2.1) (fun _ => rfl)
theorem auR : Opn Tryz.prog 24 (eL aN).enc (eL aN).sz := oy (e := aN) Tryz.underlying24 (by kernel_rfl) auQ (by decide)
theorem auS : Opn Tryz.prog 78 aA.enc aA.sz := (lI Tryz.underlying78 (by kernel_rfl) (by kernel_rfl) (dh nH (dh nH (dh nH (dh nH (dh nH oz)))))).iso (fun p => aT.mk p.1 p.2.1 p.2.2.1 p.2.2.2.1 p.2.2.2.2.1) (fun _ => rfl)
theorem auT : Opn Tryz.prog 23 (eL aA).enc (eL aA).sz := oy (e := aA) Tryz.underlying23 (by kernel_rfl) auS (by decide)
theorem auU : Opn Tryz.prog 27 gU.enc gU.sz := (lI Tryz.underlying27 (by kernel_rfl) (by kernel_rfl) (dh auT (dh auR (dh auP oz)))).iso (fun p => aB.mk p.1 p.2.1 p.2.2.1) (fun _ => rfl)
def uG (b : (List Int) × aB × Int × Unit) : List AV := [.lst false (ml bJ b.1), .agg (gU.enc b.2.1), .int .i64 b.2.2.1]
def x7 (b : (List Int) × aB × Int × Unit) : Prop := True ∧ True ∧ True ∧ True
theorem x8 : aaV Tryz.prog Tryz.f8.params.toList uG x7 := by
 rw [Tryz.params8]
 exact uP (adP (av := fun x => .lst false (ml bJ x)) auJ (afs Tryz.underlying22)) (uP (amI (enc := gU.enc) Tryz.underlying27 auU) (uP (adP (av := fun x => .int .i64 x) nH (amK Tryz.underlying3)) (acG)))
theorem z7 (b : (List Int) × aB × Int × Unit) (hb : x7 b) : RO Tryz.prog 8 [] (uG b) (.bool true) := sP (vn b.1 b.2.1 b.2.2.1)
theorem abu : ownKnob Tryz.prog.godebug = none := by kernel_rfl
theorem z8 : laidOutB Tryz.prog = true := by kernel_rfl
theorem aaa {H : Type} : ∀ ds : List (DataW H), ds.length = Tryz.f8.params.size → (Rows.floodingDeliversSpec.fn H ds).results = [.lit (.bool true)] ∧ (Rows.floodingDeliversSpec.fn H ds).args = ds ∧ (Rows.floodingDeliversSpec.fn H ds).vars = [] := by
 intro ds hd
 have hd : ds.length = 3 := hd
 match ds, hd with
 | [_, _, _], _ => exact ⟨rfl, rfl, rfl⟩
theorem wW (os : Os) (started : os.Started) (H : Type) (enc : TypeId × Value → H) :
  ReturnsInHanded {} Tryz.checked os 8 .any (Rows.floodingDeliversSpec.pre6 enc Tryz.prog Tryz.f8 Rows.floodingDeliversRow.domain false) (Rows.floodingDeliversSpec.post enc Tryz.prog Tryz.f8 false true false false) := by
 refine returnsInHanded_of_change (C := Tryz.checked) abu started (by kernel_rfl) Tryz.func8
  (ChangeSpec.witness6 (enc := enc) (C := Tryz.checked) false ⟨#[], #[.slice none 0 0, .agg #[.slice none 0 0, .slice none 0 0, .slice none 0 0], .int .i64 0], []⟩ 8 (by kernel_rfl) (by kernel_rfl) (by kernel_rfl) (by kernel_rfl)) ?_
 intro W base args ds gs before ae0 hW hcnd _
 exact acH z8 (TB := 4) (by kernel_rfl) Tryz.underlying4 rfl (by rw [Tryz.params8]; intro t ht; simp only [List.mem_cons, List.not_mem_nil, or_false] at ht; rcases ht with rfl | rfl | rfl <;> exact ⟨by kernel_rfl, by decide +kernel⟩) x8 z7 aaa W base args ds gs before ae0 hW
theorem law_holds : Rows.FloodingDeliversSaid :=
 OpenClaim.holds_of_wide 8 Tryz.f8 rfl rfl rfl rfl rfl rfl rfl ⟨rfl, rfl, rfl, rfl, rfl⟩ rfl rfl rfl rfl rfl (by kernel_rfl) Tryz.func8 (by kernel_rfl)
  (of_decide_eq_true (by kernel_rfl)) (by unfold Func.isWrapper; first | (rw [if_pos (by decide +kernel)]; kernel_rfl) | (rw [if_neg (by decide +kernel)]; exact ⟨rfl, rfl⟩))
  (fun os started H enc _ => wW os started H enc)
end Go.Proofs.YtpmifmdidfgpdaaGreat
