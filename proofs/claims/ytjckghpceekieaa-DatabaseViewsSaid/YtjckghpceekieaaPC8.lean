/- Plain: the law DatabaseChecks. No condition. -/
import Derived.Test.YtjckghpceekieaaP8T
import Derived.Test.YtjckghpceekieaaPA8
import Derived.Test.YtjckghpceekieaaDL5
namespace Go.Proofs.Ytjckghpceekieaa
set_option linter.all false
open Go

/-- a database that a statement looks at has lists of a size that can be copied -/
theorem big_sm (d : GDatabase) : ∃ b, m_law08_big d = some b ∧ (b = false → SmD d) := by
  unfold m_law08_big
  refine ⟨d.Adverts.any (fun a : GAdvert => decide ((60:Int) < (a.Links.length:Int)) || decide ((60:Int) < (a.Claims.length:Int))) || decide ((120:Int) < (d.Adverts.length:Int)), ?_, ?_⟩
  · refine (any_loop (fun a : GAdvert => decide ((60:Int) < (a.Links.length:Int)) || decide ((60:Int) < (a.Claims.length:Int))) (some true) ?_ _ _ _).trans ?_
    · intros; rfl
    · cases d.Adverts.any _ <;> rfl
  · intro h
    simp only [Bool.or_eq_false_iff, decide_eq_false_iff_not] at h
    refine ⟨by omega, fun a ha => ?_⟩
    have := any_false.1 h.1 a ha
    simp only [Bool.or_eq_false_iff, decide_eq_false_iff_not] at this
    exact ⟨by omega, by omega⟩
theorem plain_DatabaseChecks (t : List Int) (raw : GDatabase) (r : Int) : m_law08_DatabaseChecks t raw r = some true := by
  refine Ok.eq ?_
  unfold m_law08_DatabaseChecks
  refine Ok.bnd (new_ok t) fun s hs => ?_
  refine Ok.bnd (database_ok hs (by omega)) fun a ha => ?_
  refine Ok.bnd (database_ok ha.2 (by omega)) fun b hb => ?_
  obtain ⟨bg, hbg, hsm⟩ := big_sm raw
  refine Ok.whl (fun s : Int × List Int × Int => (0 ≤ s.1 ∧ s.1 ≤ 3) ∧ TapeOk (GTape.mk s.2.1 s.2.2)) (fun s => (3 - s.1).toNat) ⟨by simp, hb.2⟩ (by simp) ?_
  rintro ⟨i, L, At⟩ Z ⟨hi, ht⟩ hZ
  refine Ok.jn (fun v : Bool => v = true → i < 3 ∧ bg = false) (fun v hv => ?_) fun J1 hJ1 => ?_
  · refine Ok.cs (fun h => ?_) fun _ => ?_
    · obtain ⟨hi3, hbf⟩ := hv h
      refine Ok.bnd (elO_ok hi.1 (by simpa using hi3)) fun e he => ?_
      have hem : SmD e := by
        have := he.1
        simp only [List.mem_cons, List.not_mem_nil, or_false] at this
        rcases this with rfl | rfl | rfl
        · exact ha.1.1
        · exact hb.1.1
        · exact hsm hbf
      simp only [db_check, ref08_check, bnd_s, decide_true, Bool.not_true, cond_false]
      refine Ok.forM (fun _ _ => True) (fun j x s Z2 _ _ _ hZ2 => ?_) _ trivial fun s _ => ?_
      · simp only [db_same, ref08_same, bnd_s, beq_self_eq_true, Bool.not_true, cond_false]
        exact hZ2 _ trivial
      · refine Ok.bnd (range_ok ht) fun p9 h9 => ?_
        refine Ok.forN (fun _ _ => True) 0 2 (fun j s Z3 hj1 hj2 _ hZ3 => ?_) (fun j s hj1 hj2 _ => ?_) _ _ _ rfl (by omega) (by omega) trivial
        · refine Ok.bnd (elO_ok hj1 (by simpa using hj2)) fun x _ => ?_
          simp only [db_find hem, ref08_find, ref07_same, sameA_self, bnd_s, jn, beq_self_eq_true, Bool.not_true, cond_false]
          exact hZ3 _ trivial
        · rw [w64_id (by omega) (by omega)]
          exact hZ _ ⟨by simp only; omega, h9.2⟩ (by simp only; omega)
    · rw [awake8]; exact Ok.s rfl
  · refine Ok.cs (fun h => ?_) fun _ => hJ1 _ (by simp)
    rw [hbg, bnd_s]
    exact hJ1 _ fun hb => ⟨by simpa using h, by simpa using hb⟩
end Go.Proofs.Ytjckghpceekieaa
