/- Plain: databases that a statement looks at. No condition. -/
import Derived.Test.YtmcjffllahcclaaGreatP8A
import Derived.Test.YtmcjffllahcclaaGreatDL
namespace Go.Proofs.YtmcjffllahcclaaGreat
set_option linter.all false
open Go

/-- a database that a statement looks at has lists of a size that can be copied -/
theorem big_sm (d : GDatabase) : ∃ b, m_law08_big d = some b ∧ (b = false → SmD d) := by
  unfold m_law08_big
  refine ⟨d.Adverts.any (fun a : GAdvert => decide ((60:Int) < (a.Links.length:Int)) || decide ((60:Int) < (a.Claims.length:Int))) || decide ((120:Int) < (d.Adverts.length:Int)), ?_, ?_⟩
  · refine (any_loop (fun a : GAdvert => decide ((60:Int) < (a.Links.length:Int)) || decide ((60:Int) < (a.Claims.length:Int))) (some true) ?_ _ _ _).trans ?_
    · intros; rfl
    · cases d.Adverts.any _ <;> rfl
  · intro h
    simp only [Bool.or_eq_false_iff, decide_eq_false_iff_not] at h
    refine ⟨by omega, fun a ha => ?_⟩
    have := any_false.1 h.1 a ha
    simp only [Bool.or_eq_false_iff, decide_eq_false_iff_not] at this
    exact ⟨by omega, by omega⟩
end Go.Proofs.YtmcjffllahcclaaGreat
