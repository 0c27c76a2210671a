/- The law abI returns true for every input, and leaves the input as it was. No condition. -/
import Derived.Test.YtpmifmdidfgpdaaGreatB6
import Derived.Test.YtpmifmdidfgpdaaGreatVL2
import Derived.Test.YtpmifmdidfgpdaaGreatPI9
namespace Go.Proofs.YtpmifmdidfgpdaaGreat
set_option linter.all false
open Go Go.ChangeShapes Go.WideShapes Go.ChangeAt Go.RowKit
set_option maxRecDepth 100000
theorem fE : Opn Tryz.prog 3 aY.enc aY.sz := ad3 Tryz.underlying3 (by kernel_rfl)
theorem afx : Opn Tryz.prog 22 (eL aY).enc (eL aY).sz := gQ (e := aY) Tryz.underlying22 (by kernel_rfl) fE (by decide)
theorem afy : Opn Tryz.prog 85 aR.enc aR.sz := (eS Tryz.underlying85 (by kernel_rfl) (by kernel_rfl) (bN fE (bN fE (bN fE gJ)))).iso (fun p => bx.mk p.1 p.2.1 p.2.2.1) (fun _ => rfl)
theorem aa1 : Opn Tryz.prog 48 (eL aR).enc (eL aR).sz := gQ (e := aR) Tryz.underlying48 (by kernel_rfl) afy (by decide)
theorem adC : Opn Tryz.prog 106 bn.enc bn.sz := (eS Tryz.underlying106 (by kernel_rfl) (by kernel_rfl) (bN fE (bN fE (bN fE gJ)))).iso (fun p => bu.mk p.1 p.2.1 p.2.2.1) (fun _ => rfl)
theorem afz : Opn Tryz.prog 47 (eL bn).enc (eL bn).sz := gQ (e := bn) Tryz.underlying47 (by kernel_rfl) adC (by decide)
theorem adD : Opn Tryz.prog 4 acp.enc acp.sz := acY Tryz.underlying4 (by kernel_rfl)
theorem afA : Opn Tryz.prog 50 aJ.enc aJ.sz := (eS Tryz.underlying50 (by kernel_rfl) (by kernel_rfl) (bN fE (bN fE (bN adD (bN afz (bN aa1 gJ)))))).iso (fun p => ak.mk p.1 p.2.1 p.2.2.1 p.2.2.2.1 p.2.2.2.2.1) (fun _ => rfl)
theorem afB : Opn Tryz.prog 58 (eL aJ).enc (eL aJ).sz := gQ (e := aJ) Tryz.underlying58 (by kernel_rfl) afA (by decide)
theorem aa2 : Opn Tryz.prog 60 tJ.enc tJ.sz := (eS Tryz.underlying60 (by kernel_rfl) (by kernel_rfl) (bN afB gJ)).iso (fun p => aH.mk p.1) (fun _ => rfl)
theorem afC : Opn Tryz.prog 62 aN.enc aN.sz := (eS Tryz.underlying62 (by kernel_rfl) (by kernel_rfl) (bN fE (bN fE (bN aa2 gJ)))).iso (fun p => bP.mk p.1 p.2.1 p.2.2.1) (fun _ => rfl)
theorem afD : Opn Tryz.prog 25 (eL aN).enc (eL aN).sz := gQ (e := aN) Tryz.underlying25 (by kernel_rfl) afC (by decide)
theorem afE : Opn Tryz.prog 81 aL.enc aL.sz := (eS Tryz.underlying81 (by kernel_rfl) (by kernel_rfl) (bN fE (bN fE (bN adD (bN aa1 (bN aa2 gJ)))))).iso (fun p => aU.mk p.1 p.2.1 p.2.2.1 p.2.2.2.1 p.2.2.2.2.1) (fun _ => rfl)
theorem afF : Opn Tryz.prog 24 (eL aL).enc (eL aL).sz := gQ (e := aL) Tryz.underlying24 (by kernel_rfl) afE (by decide)
theorem afG : Opn Tryz.prog 78 az.enc az.sz := (eS Tryz.underlying78 (by kernel_rfl) (by kernel_rfl) (bN fE (bN fE (bN fE (bN fE (bN fE gJ)))))).iso (fun p => aX.mk p.1 p.2.1 p.2.2.1 p.2.2.2.1 p.2.2.2.2.1) (fun _ => rfl)
theorem afH : Opn Tryz.prog 23 (eL az).enc (eL az).sz := gQ (e := az) Tryz.underlying23 (by kernel_rfl) afG (by decide)
theorem afI : Opn Tryz.prog 27 cI.enc cI.sz := (eS Tryz.underlying27 (by kernel_rfl) (by kernel_rfl) (bN afH (bN afF (bN afD gJ)))).iso (fun p => aA.mk p.1 p.2.1 p.2.2.1) (fun _ => rfl)
def uT (b : (List Int) × aA × Int × Unit) : List AV := [.lst false (ml aY b.1), .agg (cI.enc b.2.1), .int .i64 b.2.2.1]
def yo (b : (List Int) × aA × Int × Unit) : Prop := True ∧ True ∧ True ∧ True
theorem yp : abe Tryz.prog Tryz.f5.params.toList uT yo := by
 rw [Tryz.params5]
 exact qp (yN (av := fun x => .lst false (ml aY x)) afx (abW Tryz.underlying22)) (qp (ad4 (enc := cI.enc) Tryz.underlying27 afI) (qp (yN (av := fun x => .int .i64 x) fE (ad5 Tryz.underlying3)) (acZ)))
theorem aau (b : (List Int) × aA × Int × Unit) (hb : yo b) : RO Tryz.prog 5 [] (uT b) (.bool true) := tM (xh b.1 b.2.1 b.2.2.1)
theorem abJ : ownKnob Tryz.prog.godebug = none := by kernel_rfl
theorem aav : laidOutB Tryz.prog = true := by kernel_rfl
theorem aaw {H : Type} : ∀ ds : List (DataW H), ds.length = Tryz.f5.params.size → (Rows.floodingIssuesSpec.fn H ds).results = [.lit (.bool true)] ∧ (Rows.floodingIssuesSpec.fn H ds).args = ds ∧ (Rows.floodingIssuesSpec.fn H ds).vars = [] := by
 intro ds hd
 have hd : ds.length = 3 := hd
 match ds, hd with
 | [_, _, _], _ => exact ⟨rfl, rfl, rfl⟩
theorem xk (os : Os) (started : os.Started) (H : Type) (enc : TypeId × Value → H) :
  ReturnsInHanded {} Tryz.checked os 5 .any (Rows.floodingIssuesSpec.pre6 enc Tryz.prog Tryz.f5 Rows.floodingIssuesRow.domain false) (Rows.floodingIssuesSpec.post enc Tryz.prog Tryz.f5 false true false false) := by
 refine returnsInHanded_of_change (C := Tryz.checked) abJ started (by kernel_rfl) Tryz.func5
  (ChangeSpec.witness6 (enc := enc) (C := Tryz.checked) false ⟨#[], #[.slice none 0 0, .agg #[.slice none 0 0, .slice none 0 0, .slice none 0 0], .int .i64 0], []⟩ 8 (by kernel_rfl) (by kernel_rfl) (by kernel_rfl) (by kernel_rfl)) ?_
 intro W base args ds gs before afJ hW hcnd _
 exact ac0 aav (TB := 4) (by kernel_rfl) Tryz.underlying4 rfl (by rw [Tryz.params5]; intro t ht; simp only [List.mem_cons, List.not_mem_nil, or_false] at ht; rcases ht with rfl | rfl | rfl <;> exact ⟨by kernel_rfl, by decide +kernel⟩) yp aau aaw W base args ds gs before afJ hW
theorem law_holds : Rows.FloodingIssuesSaid :=
 OpenClaim.holds_of_wide 5 Tryz.f5 rfl rfl rfl rfl rfl rfl rfl ⟨rfl, rfl, rfl, rfl, rfl⟩ rfl rfl rfl rfl rfl (by kernel_rfl) Tryz.func5 (by kernel_rfl)
  (of_decide_eq_true (by kernel_rfl)) (by unfold Func.isWrapper; first | (rw [if_pos (by decide +kernel)]; kernel_rfl) | (rw [if_neg (by decide +kernel)]; exact ⟨rfl, rfl⟩))
  (fun os started H enc _ => xk os started H enc)
end Go.Proofs.YtpmifmdidfgpdaaGreat
