/- Plain: the law z6. No condition. -/
import Derived.Test.YtpmifmdidfgpdaaGreatPN
import Derived.Test.YtpmifmdidfgpdaaGreatPA9
import Derived.Test.YtpmifmdidfgpdaaGreatDL3
namespace Go.Proofs.YtpmifmdidfgpdaaGreat
set_option linter.all false
open Go
theorem auG (f : aB) : ∃ b, pI f = some b ∧ (b = false → SzF f 30) := by
 unfold pI
 refine ⟨_, rfl, fun h => ?_⟩
 simp only [Bool.or_eq_false_iff, decide_eq_false_iff_not] at h
 exact ⟨by omega, by omega, by omega⟩
theorem vn (t : List Int) (raw : aB) (k : Int) : iC t raw k = some true := by
 refine Ok.eq ?_
 unfold iC
 refine Ok.bnd (ap3 t) fun s hs => ?_
 refine Ok.bnd (adf hs (by omega)) fun a ha => ?_
 refine Ok.bnd (aiH ha.2 ha.1 (by omega)) fun b hb => ?_
 refine Ok.bnd (adf hb.2 (by omega)) fun c hc => ?_
 obtain ⟨bg, hbg, hsm⟩ := auG raw
 refine Ok.whl (fun s : Int × List Int × Int => (0 ≤ s.1 ∧ s.1 ≤ 3) ∧ cE (aQ.mk s.2.1 s.2.2)) (fun s => (3 - s.1).toNat) ⟨by simp, hc.2⟩ (by simp) ?_
 rintro ⟨i, L, At⟩ Z ⟨hi, ht⟩ hZ
 refine Ok.jn (fun v : Bool => v = true → i < 3 ∧ bg = false) (fun v hv => ?_) fun J1 hJ1 => ?_
 ·refine Ok.cs (fun h => ?_) fun _ => ?_
  ·obtain ⟨hi3, hbf⟩ := hv h
   refine Ok.bnd (nF ht) fun q hq => ?_
   refine Ok.fW (fun _ _ => True) 0 3 (fun j s Z3 hj1 hj2 _ hZ3 => ?_) (fun j s hj1 hj2 _ => ?_) _ _ _ rfl (by omega) (by omega) trivial
   ·refine Ok.bnd (pJ (l := [b.1, c.1, raw]) hi.1 (by simpa using hi3)) fun e he => ?_
    have hem : SmF e := by
     have hm := he.1
     simp only [List.mem_cons, List.not_mem_nil, or_false] at hm
     rcases hm with rfl | rfl | rfl
     ·exact hb.1.1
     ·exact hc.1.sm (by omega)
     ·exact (hsm hbf).sm (by omega)
    refine Ok.bnd (pJ hj1 (by simpa using hj2)) fun x _ => ?_
    obtain ⟨p1, a1, a2, s1⟩ := abX hem x
    obtain ⟨p2, b1, b2, s2⟩ := afV hem x
    obtain ⟨p3, c1, c2, s3⟩ := adB hem x
    simp only [a1, a2, b1, b2, c1, c2, aP, jn, wV _ s1, wV _ s2, wV _ s3, decide_true, Bool.not_true, cond_false]
    exact hZ3 _ trivial
   ·rw [cr (by omega) (by omega)]
    exact hZ _ ⟨by simp only; omega, hq.2⟩ (by simp only; omega)
  ·rw [afS]; exact Ok.s rfl
 ·refine Ok.cs (fun h => ?_) fun _ => hJ1 _ (by simp)
  rw [hbg, aP]
  exact hJ1 _ fun hb => ⟨by simpa using h, by simpa using hb⟩
end Go.Proofs.YtpmifmdidfgpdaaGreat
