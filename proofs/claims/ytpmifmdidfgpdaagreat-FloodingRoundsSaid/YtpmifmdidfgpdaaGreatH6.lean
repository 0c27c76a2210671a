/- The law aaZ returns true for every input, and leaves the input as it was. No condition. -/
import Derived.Test.YtpmifmdidfgpdaaGreatB6
import Derived.Test.YtpmifmdidfgpdaaGreatVL6
import Derived.Test.YtpmifmdidfgpdaaGreatPR9
namespace Go.Proofs.YtpmifmdidfgpdaaGreat
set_option linter.all false
open Go Go.ChangeShapes Go.WideShapes Go.ChangeAt Go.RowKit
set_option maxRecDepth 100000
theorem nR : Opn Tryz.prog 3 bL.enc bL.sz := amp Tryz.underlying3 (by kernel_rfl)
theorem auq : Opn Tryz.prog 22 (eL bL).enc (eL bL).sz := nZ (e := bL) Tryz.underlying22 (by kernel_rfl) nR (by decide)
theorem aur : Opn Tryz.prog 85 aS.enc aS.sz := (kZ Tryz.underlying85 (by kernel_rfl) (by kernel_rfl) (de nR (de nR (de nR n4)))).iso (fun p => bz.mk p.1 p.2.1 p.2.2.1) (fun _ => rfl)
theorem ajG : Opn Tryz.prog 48 (eL aS).enc (eL aS).sz := nZ (e := aS) Tryz.underlying48 (by kernel_rfl) aur (by decide)
theorem ap8 : Opn Tryz.prog 106 bk.enc bk.sz := (kZ Tryz.underlying106 (by kernel_rfl) (by kernel_rfl) (de nR (de nR (de nR n4)))).iso (fun p => bu.mk p.1 p.2.1 p.2.2.1) (fun _ => rfl)
theorem aus : Opn Tryz.prog 47 (eL bk).enc (eL bk).sz := nZ (e := bk) Tryz.underlying47 (by kernel_rfl) ap8 (by decide)
theorem ap9 : Opn Tryz.prog 4 aiv.enc aiv.sz := ahA Tryz.underlying4 (by kernel_rfl)
theorem aut : Opn Tryz.prog 50 aH.enc aH.sz := (kZ Tryz.underlying50 (by kernel_rfl) (by kernel_rfl) (de nR (de nR (de ap9 (de aus (de ajG n4)))))).iso (fun p => aj.mk p.1 p.2.1 p.2.2.1 p.2.2.2.1 p.2.2.2.2.1) (fun _ => rfl)
theorem auu : Opn Tryz.prog 58 (eL aH).enc (eL aH).sz := nZ (e := aH) Tryz.underlying58 (by kernel_rfl) aut (by decide)
theorem ajH : Opn Tryz.prog 60 zR.enc zR.sz := (kZ Tryz.underlying60 (by kernel_rfl) (by kernel_rfl) (de auu n4)).iso (fun p => aF.mk p.1) (fun _ => rfl)
theorem auv : Opn Tryz.prog 62 aN.enc aN.sz := (kZ Tryz.underlying62 (by kernel_rfl) (by kernel_rfl) (de nR (de nR (de ajH n4)))).iso (fun p => bn.mk p.1 p.2.1 p.2.2.1) (fun _ => rfl)
theorem auw : Opn Tryz.prog 25 (eL aN).enc (eL aN).sz := nZ (e := aN) Tryz.underlying25 (by kernel_rfl) auv (by decide)
theorem auy : Opn Tryz.prog 81 aO.enc aO.sz := (kZ Tryz.underlying81 (by kernel_rfl) (by kernel_rfl) (de nR (de nR (de ap9 (de ajG (de ajH n4)))))).iso (fun p => aV.mk p.1 p.2.1 p.2.2.1 p.2.2.2.1 p.2.2.2.2.1) (fun _ => rfl)
theorem auz : Opn Tryz.prog 24 (eL aO).enc (eL aO).sz := nZ (e := aO) Tryz.underlying24 (by kernel_rfl) auy (by decide)
theorem auA : Opn Tryz.prog 78 az.enc az.sz := (kZ Tryz.underlying78 (by kernel_rfl) (by kernel_rfl) (de nR (de nR (de nR (de nR (de nR n4)))))).iso (fun p => aQ.mk p.1 p.2.1 p.2.2.1 p.2.2.2.1 p.2.2.2.2.1) (fun _ => rfl)
theorem auB : Opn Tryz.prog 23 (eL az).enc (eL az).sz := nZ (e := az) Tryz.underlying23 (by kernel_rfl) auA (by decide)
theorem auC : Opn Tryz.prog 27 kQ.enc kQ.sz := (kZ Tryz.underlying27 (by kernel_rfl) (by kernel_rfl) (de auB (de auz (de auw n4)))).iso (fun p => aB.mk p.1 p.2.1 p.2.2.1) (fun _ => rfl)
def acR (b : (List Int) × aB × Unit) : List AV := [.lst false (ml bL b.1), .agg (kQ.enc b.2.1)]
def afs (b : (List Int) × aB × Unit) : Prop := True ∧ True ∧ True
theorem aft : ab8 Tryz.prog Tryz.f3.params.toList acR afs := by
 rw [Tryz.params3]
 exact abc (amr (av := fun x => .lst false (ml bL x)) auq (aeY Tryz.underlying22)) (abc (amq (enc := kQ.enc) Tryz.underlying27 auC) (ahC))
theorem ain (b : (List Int) × aB × Unit) (hb : afs b) : RO Tryz.prog 3 [] (acR b) (.bool true) := sY (wB b.1 b.2.1)
theorem amM : ownKnob Tryz.prog.godebug = none := by kernel_rfl
theorem aio : laidOutB Tryz.prog = true := by kernel_rfl
theorem aip {H : Type} : ∀ ds : List (DataW H), ds.length = Tryz.f3.params.size → (Rows.floodingRoundsSpec.fn H ds).results = [.lit (.bool true)] ∧ (Rows.floodingRoundsSpec.fn H ds).args = ds ∧ (Rows.floodingRoundsSpec.fn H ds).vars = [] := by
 intro ds hd
 have hd : ds.length = 2 := hd
 match ds, hd with
 | [_, _], _ => exact ⟨rfl, rfl, rfl⟩
theorem aew (os : Os) (started : os.Started) (H : Type) (enc : TypeId × Value → H) :
  ReturnsInHanded {} Tryz.checked os 3 .any (Rows.floodingRoundsSpec.pre6 enc Tryz.prog Tryz.f3 Rows.floodingRoundsRow.domain false) (Rows.floodingRoundsSpec.post enc Tryz.prog Tryz.f3 false true false false) := by
 refine returnsInHanded_of_change (C := Tryz.checked) amM started (by kernel_rfl) Tryz.func3
  (ChangeSpec.witness6 (enc := enc) (C := Tryz.checked) false ⟨#[], #[.slice none 0 0, .agg #[.slice none 0 0, .slice none 0 0, .slice none 0 0]], []⟩ 8 (by kernel_rfl) (by kernel_rfl) (by kernel_rfl) (by kernel_rfl)) ?_
 intro W base args ds gs before auD hW hcnd _
 exact ahD aio (TB := 4) (by kernel_rfl) Tryz.underlying4 rfl (by rw [Tryz.params3]; intro t ht; simp only [List.mem_cons, List.not_mem_nil, or_false] at ht; rcases ht with rfl | rfl <;> exact ⟨by kernel_rfl, by decide +kernel⟩) aft ain aip W base args ds gs before auD hW
theorem law_holds : Rows.FloodingRoundsSaid :=
 OpenClaim.holds_of_wide 3 Tryz.f3 rfl rfl rfl rfl rfl rfl rfl ⟨rfl, rfl, rfl, rfl, rfl⟩ rfl rfl rfl rfl rfl (by kernel_rfl) Tryz.func3 (by kernel_rfl)
  (of_decide_eq_true (by kernel_rfl)) (by unfold Func.isWrapper; first | (rw [if_pos (by decide +kernel)]; kernel_rfl) | (rw [if_neg (by decide +kernel)]; exact ⟨rfl, rfl⟩))
  (fun os started H enc _ => aew os started H enc)
end Go.Proofs.YtpmifmdidfgpdaaGreat
