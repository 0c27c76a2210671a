/- Plain: the law of what is used. No condition. -/
import Derived.Test.YtflifgcoleknlaaPN
import Derived.Test.YtflifgcoleknlaaDL3
namespace Go.Proofs.Ytflifgcoleknlaa
set_option linter.all false
open Go
theorem plain_ShortestUses (t : List Int) (x y z : Int) (raw : GHop) : m_law06_ShortestUses t x y z raw = some true := by
 unfold m_law06_ShortestUses
 refine Ok.eq (Ok.bnd (new_ok t) fun s hs => Ok.bnd (topol_ok hs (by decide) (by decide)) fun p hp => ?_)
 obtain ⟨⟨g1, g2, g3⟩, hp2⟩ := hp
 refine Ok.bnd (router_ok hp2 (by omega) (by decide)) fun r1 hr1 => Ok.bnd (router_ok hr1 (by omega) (by decide)) fun r2 hr2 => Ok.bnd (router_ok hr2 (by omega) (by decide)) fun r3 hr3 => Ok.bnd (router_ok hr3 (by omega) (by decide)) fun r4 hr4 => Ok.bnd (router_ok hr4 (by omega) (by decide)) fun r5 hr5 => ?_
 have hl : p.1.Links.length ≤ 1000000 := by omega
 refine Ok.jn (fun _ => True) (fun s _ => ?_) fun J1 hJ1 => ?_
 ·obtain ⟨m1, m2⟩ := s
  simp only
  rw [top_Uses6 _ _ _ _ hl, ref_Uses6, top_Uses6 _ _ _ _ hl, ref_Uses6, top_Avoids6, ref_Avoids6, top_Avoids6, ref_Avoids6]
  simp only [bnd_s, beq_self_eq_true, cond_true]
  rw [awake6]; exact .s rfl
 refine Ok.jn (fun s : Bool × List Int × Int => (s.1 = true → p.1.Links.length ≠ 0) ∧ TapeOk (GTape.mk s.2.1 s.2.2)) (fun s hs => ?_) fun J2 hJ2 => ?_
 ·obtain ⟨v, m1, m2⟩ := s
  refine Ok.cs (fun hv => ?_) fun _ => hJ1 _ trivial
  have := hs.1 hv
  refine Ok.bnd (next_ok hs.2 (by omega)) fun q hq => ?_
  exact Ok.bnd (elO_ok hq.1.1 (hq.1.2.1 (by omega))) fun e _ => hJ1 _ trivial
 ·refine Ok.cs (fun hc => ?_) fun _ => hJ2 _ ⟨by simp, hr5⟩
  have hc := of_decide_eq_true hc
  exact Ok.bnd (next_ok hr5 (by decide)) fun q hq => hJ2 _ ⟨fun _ => by omega, hq.2⟩
end Go.Proofs.Ytflifgcoleknlaa
