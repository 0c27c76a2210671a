/- Plain: the law DatabasePuts. No condition. -/
import Derived.Test.YtmcjffllahcclaaGreatP8W
import Derived.Test.YtmcjffllahcclaaGreatP8T
import Derived.Test.YtmcjffllahcclaaGreatPB8
import Derived.Test.YtmcjffllahcclaaGreatPA8
import Derived.Test.YtmcjffllahcclaaGreatDL7
namespace Go.Proofs.YtmcjffllahcclaaGreat
set_option linter.all false
open Go

theorem plain_DatabasePuts (t : List Int) (raw : GDatabase) (a : GAdvert) : m_law08_DatabasePuts t raw a = some true := by
  refine Ok.eq ?_
  unfold m_law08_DatabasePuts
  refine Ok.bnd (new_ok t) fun s hs => ?_
  refine Ok.bnd (database_ok hs (by omega)) fun d hd => ?_
  refine Ok.bnd (range_ok hd.2) fun p3 h3 => ?_
  refine Ok.bnd (advert_ok h3.2 (by omega)) fun p4 h4 => ?_
  refine Ok.jn (fun s : Int × Int × Bool × List GReach × List GClaim => SmA (GAdvert.mk s.1 s.2.1 s.2.2.1 s.2.2.2.1 s.2.2.2.2)) ?_ ?_
  · rintro ⟨m1, m2, m3, m4, m5⟩ hsm
    simp only at hsm ⊢
    rw [db_Put hd.1.1 hsm, ref08_put]
    simp only [bnd_s, ref08_same, sameD_self, jn, beq_self_eq_true, Bool.not_true, cond_false]
    obtain ⟨bg, hbg, hbs⟩ := big_sm raw
    simp only [hbg, bnd_s]
    have fin : SmD raw → SmA a → Ok (bnd (m_database_Put raw a) fun vx_12 => bnd (m_ref08_Put raw a) fun vx_13 => bnd (some (sameD vx_12.1 vx_13.1)) fun vx_14 => (bif vx_14 then (bif (vx_12.2 == vx_13.2) then bnd (m_law08_awake) fun (vx_15 : Bool) => some vx_15 else some false) else some false)) (fun x => x = true) := fun h1 h2 => by
      rw [db_Put h1 h2, ref08_put]
      simp only [bnd_s, sameD_self, beq_self_eq_true, cond_true, awake8]
      exact Ok.s rfl
    cases bg
    · simp only [cond_false]
      by_cases hl : 60 < (a.Links.length : Int)
      · simp only [hl, decide_true, cond_true, awake8, bnd_s]; exact Ok.s rfl
      · by_cases hc : 60 < (a.Claims.length : Int)
        · simp only [hl, hc, decide_true, decide_false, cond_true, cond_false, awake8, bnd_s]; exact Ok.s rfl
        · simp only [hl, hc, decide_false, cond_false]
          exact fin (hbs rfl) ⟨by omega, by omega⟩
    · simp only [cond_true, awake8, bnd_s]; exact Ok.s rfl
  · intro J hJ
    refine Ok.jn (fun s : Bool × List Int × Int => (s.1 = true → 0 < d.1.Adverts.length) ∧ TapeOk (GTape.mk s.2.1 s.2.2)) ?_ ?_
    · rintro ⟨v, m6, m7⟩ ⟨hv, ht⟩
      simp only at hv ht ⊢
      refine Ok.cs (fun h => ?_) fun _ => hJ _ h4.1
      have hv := hv h
      have hl := hd.1.2.1
      refine Ok.bnd (next_ok ht (by omega)) fun p6 h6 => ?_
      have := h6.1.2.1 (by omega)
      refine Ok.bnd (elO_ok h6.1.1 (by omega)) fun e he => ?_
      exact hJ _ (hd.1.1.2 e he.1)
    · intro J2 hJ2
      refine Ok.cs (fun h => ?_) fun _ => hJ2 _ ⟨fun h => by simp at h, h4.2.2⟩
      refine Ok.bnd (one_ok h4.2.2 (by omega)) fun p5 h5 => ?_
      exact hJ2 _ ⟨fun _ => by simp at h; omega, h5⟩
end Go.Proofs.YtmcjffllahcclaaGreat
