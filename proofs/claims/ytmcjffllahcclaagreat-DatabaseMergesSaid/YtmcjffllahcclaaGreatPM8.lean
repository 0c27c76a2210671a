/- Plain: the law DatabaseMerges. No condition. -/
import Derived.Test.YtmcjffllahcclaaGreatP8I
import Derived.Test.YtmcjffllahcclaaGreatP8T
import Derived.Test.YtmcjffllahcclaaGreatPA8
import Derived.Test.YtmcjffllahcclaaGreatDL8
namespace Go.Proofs.YtmcjffllahcclaaGreat
set_option linter.all false
open Go

theorem plain_DatabaseMerges (t : List Int) : m_law08_DatabaseMerges t = some true := by
  refine Ok.eq ?_
  unfold m_law08_DatabaseMerges
  refine Ok.bnd (new_ok t) fun s hs => ?_
  refine Ok.bnd (database_ok hs (by omega)) fun a ha => ?_
  refine Ok.bnd (database_ok ha.2 (by omega)) fun b hb => ?_
  refine Ok.bnd (database_ok hb.2 (by omega)) fun c hc => ?_
  have hvc := vd_iff.1 (hc.1.2.2 rfl).1
  rw [db_merge ha.1.1, ref08_merge, db_merge hb.1.1]
  by_cases h1 : dbC a.1 = 0
  · by_cases h2 : dbC b.1 = 0
    · have hva := vd_iff.1 h1
      have hvb := vd_iff.1 h2
      have hab := hva.merge hvb
      have hbc := hvb.merge hvc
      simp only [h1, h2, and_self, if_true, bnd_s, jn, ref08_same, merge_comm hvb hva, sameD_self, decide_true, Bool.not_true, cond_false]
      rw [db_merge hab.sm, db_merge hb.1.1]
      simp only [h1, h2, vd_iff.2 hab, vd_iff.2 hvc, and_self, if_true, bnd_s]
      rw [db_merge ha.1.1, db_merge hab.sm]
      simp only [h1, vd_iff.2 hab, vd_iff.2 hbc, and_self, if_true, bnd_s, decide_true, cond_true, merge_assoc hva hvb hvc, merge_idem hva hvb, sameD_self, awake8]
      exact Ok.s rfl
    · simp only [h2, and_false, false_and, if_false, bnd_s, jn, ref08_same, sameD_self, decide_true, Bool.not_true, cond_false, awake8]
      exact Ok.s rfl
  · simp only [h1, and_false, false_and, if_false, bnd_s, jn, ref08_same, sameD_self, decide_true, Bool.not_true, cond_false, awake8]
    exact Ok.s rfl
end Go.Proofs.YtmcjffllahcclaaGreat
