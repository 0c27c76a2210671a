/- Plain: the law of the counts. No condition. -/
import Derived.Test.YtflifgcoleknlaaPN
import Derived.Test.YtflifgcoleknlaaDL7
namespace Go.Proofs.Ytflifgcoleknlaa
set_option linter.all false
open Go
theorem plain_ShortestCounts (t : List Int) : m_law06_ShortestCounts t = some true := by
 unfold m_law06_ShortestCounts
 refine Ok.eq (Ok.bnd (new_ok t) fun s hs => Ok.bnd (topol_valid hs (by decide)) fun p hp => ?_)
 obtain ⟨⟨hv, hn, _⟩, hp2⟩ := hp
 refine Ok.bnd (router_in hp2 (by omega)) fun r1 hr1 => Ok.bnd (router_in hr1.2 (by omega)) fun r2 hr2 => ?_
 obtain ⟨a, t1⟩ := r1
 obtain ⟨b, t2⟩ := r2
 simp only at hr1 hr2 ⊢
 have ha := hr1.1
 have hb := hr2.1
 have hl : p.1.Routers.length ≤ 1000000 := by omega
 have hs8 : (ids p.1).length ≤ 8 := by
  have h8 : (ids p.1).length = p.1.Routers.length := by simp [ids]
  omega
 have hc := vt_iff.2 hv
 rw [top_Next6, bnd_s]
 have hnl := next_len hv b a
 refine Ok.forL (L := nextT p.1 b a) (fun q n => n = (q.map (np p.1 b)).sum ∧ 0 ≤ n ∧ n ≤ 1000000 * (q.length : Int)) (fun q y r n Z hL hI hZ => ?_) (0:Int) ⟨by simp, by omega, by simp⟩ ?_
 ·obtain ⟨i1, i2, i3⟩ := hI
  have hy : y ∈ nextT p.1 b a := by rw [hL]; simp
  have hq : q.length ≤ 24 := by rw [hL] at hnl; simp at hnl; omega
  rw [top_Paths6 _ _ _ hl, bnd_s, pathsT, if_pos ⟨hc, next_ids hv hy, hb⟩]
  have hr := np_rng (t := p.1) b y
  rw [w64_sm (by omega) (by omega)]
  refine hZ _ ⟨by rw [List.map_append, List.sum_append, ← i1]; simp, by omega, by simp; omega⟩
 ·rintro n ⟨i1, i2, i3⟩
  refine Ok.jn (fun m => m = np p.1 b a) (fun m hm => ?_) fun J hJ => ?_
  ·rw [top_Paths6 _ _ _ hl, bnd_s, pathsT, if_pos ⟨hc, ha, hb⟩, hm, decide_eq_true rfl, cond_true, awake6]; exact .s rfl
  ·refine Ok.cs (fun h => hJ 1 ?_) fun h => hJ n ?_
   ·have := of_decide_eq_true h; rw [this, np_self]
   ·rw [np_exact hv hs8 hb (of_decide_eq_false h), i1]
end Go.Proofs.Ytflifgcoleknlaa
