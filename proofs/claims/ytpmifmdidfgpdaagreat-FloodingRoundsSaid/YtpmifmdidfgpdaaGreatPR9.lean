/- Plain: the law aaZ. No condition. -/
import Derived.Test.YtpmifmdidfgpdaaGreatPN
import Derived.Test.YtpmifmdidfgpdaaGreatPA9
import Derived.Test.YtpmifmdidfgpdaaGreatDL6
namespace Go.Proofs.YtpmifmdidfgpdaaGreat
set_option linter.all false
open Go
theorem aup (f : aB) : ∃ b, oV f = some b ∧ (b = false → SzF f 30) := by
 unfold oV
 refine ⟨_, rfl, fun h => ?_⟩
 simp only [Bool.or_eq_false_iff, decide_eq_false_iff_not] at h
 exact ⟨by omega, by omega, by omega⟩
theorem wB (t : List Int) (raw : aB) : jd t raw = some true := by
 refine Ok.eq ?_
 unfold jd
 refine Ok.bnd (apL t) fun s hs => ?_
 refine Ok.bnd (acJ hs (by omega)) fun a ha => ?_
 refine Ok.bnd (aii ha.2 ha.1 (by omega)) fun b hb => ?_
 refine Ok.bnd (acJ hb.2 (by omega)) fun c hc => ?_
 obtain ⟨bg, hbg, hsm⟩ := aup raw
 refine Ok.whl (fun s : Int => 0 ≤ s ∧ s ≤ 3) (fun s => (3 - s).toNat) ⟨by omega, by omega⟩ (by omega) ?_
 rintro i Z hi hZ
 refine Ok.jn (fun v : Bool => v = true → i < 3 ∧ bg = false) (fun v hv => ?_) fun J1 hJ1 => ?_
 ·refine Ok.cs (fun h => ?_) fun _ => ?_
  ·obtain ⟨hi3, hbf⟩ := hv h
   refine Ok.bnd (qN (l := [b.1, c.1, raw]) hi.1 (by simpa using hi3)) fun e he => ?_
   have hem : SmF e := by
    have hm := he.1
    simp only [List.mem_cons, List.not_mem_nil, or_false] at hm
    rcases hm with rfl | rfl | rfl
    ·exact hb.1.1
    ·exact hc.1.sm (by omega)
    ·exact (hsm hbf).sm (by omega)
   obtain ⟨p, a1, a2, s1⟩ := aev hem
   simp only [a1, a2, aP, jn, aet _ s1, decide_true, Bool.not_true, cond_false]
   rw [ct (by omega) (by omega)]
   exact hZ _ ⟨by omega, by omega⟩ (by omega)
  ·rw [ap5]; exact Ok.s rfl
 ·refine Ok.cs (fun h => ?_) fun _ => hJ1 _ (by simp)
  rw [hbg, aP]
  exact hJ1 _ fun hb => ⟨by simpa using h, by simpa using hb⟩
end Go.Proofs.YtpmifmdidfgpdaaGreat
