/- Plain: the law of what is unique. No condition. -/
import Derived.Test.YtflifgcoleknlaaPN
import Derived.Test.YtflifgcoleknlaaDL2
namespace Go.Proofs.Ytflifgcoleknlaa
set_option linter.all false
open Go
theorem plain_ShortestUnique (t : List Int) : m_law06_ShortestUnique t = some true := by
 unfold m_law06_ShortestUnique
 refine Ok.eq (Ok.bnd (new_ok t) fun s hs => Ok.bnd (topol_ok hs (by decide) (by decide)) fun p hp => ?_)
 rw [top_Unique6, ref_Unique6]
 simp only [bnd_s, beq_self_eq_true, cond_true]
 rw [awake6]; exact .s rfl
end Go.Proofs.Ytflifgcoleknlaa
