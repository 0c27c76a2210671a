/- Plain: the law DatabaseGrows. No condition. -/
import Derived.Test.YtmcjffllahcclaaGreatP8W
import Derived.Test.YtmcjffllahcclaaGreatP8T
import Derived.Test.YtmcjffllahcclaaGreatPA8
import Derived.Test.YtmcjffllahcclaaGreatDL9
namespace Go.Proofs.YtmcjffllahcclaaGreat
set_option linter.all false
open Go

/-- each advert is still there, or a newer one -/
def GeD (a d : GDatabase) : Prop := ∀ x ∈ a.Adverts, ∃ n ∈ d.Adverts, n.Router = x.Router ∧ newerA x n = false
theorem ge_refl (a : GDatabase) : GeD a a := fun x hx => ⟨x, hx, rfl, by simp [newerA, verA_irrefl]⟩
theorem ge_put {a d : GDatabase} (hd : Vd d) {x : GAdvert} (hx : validB x = true) (h : GeD a d) : GeD a (putT d x).1 := by
  intro y hy
  obtain ⟨n, hn, hr, hnw⟩ := h y hy
  have hlk : look d n.Router = some n := (look_some hd).2 ⟨hn, rfl⟩
  have hp := look_put hd hx n.Router
  by_cases e : n.Router = x.Router
  · rw [if_pos e, hlk] at hp
    obtain ⟨h1, h2⟩ := (look_some (hd.put hx)).1 hp
    refine ⟨_, h1, h2.trans hr, ?_⟩
    show newerA y (bif newerA x n then x else n) = false
    cases hxn : newerA x n
    · exact hnw
    · simp only [cond_true]
      have hv : verA x n = true := by simp only [newerA, Bool.and_eq_true] at hxn; exact hxn.2.2.2
      cases hyv : validB y
      · simp [newerA, hyv]
      have hyn : verA y n = false := by
        simp only [newerA, hyv, hd.ok n hn, Bool.true_and, Bool.and_eq_false_iff, decide_eq_false_iff_not] at hnw
        rcases hnw with q | q
        · exact absurd hr.symm q
        · exact q
      have := verA_ntrans hyn (verA_asymm hv)
      simp [newerA, this]
  · rw [if_neg e, hlk] at hp
    obtain ⟨h1, h2⟩ := (look_some (hd.put hx)).1 hp
    exact ⟨n, h1, hr, hnw⟩
theorem ge_merge {a b : GDatabase} (ha : Vd a) (hb : Vd b) : GeD a (mergeT a b) :=
  (foldl_inv (P := fun d => Vd d ∧ GeD a d) b.Adverts a ⟨ha, ge_refl a⟩ fun d x hx h => ⟨h.1.put (hb.ok x hx), ge_put h.1 (hb.ok x hx) h.2⟩).2
theorem plain_DatabaseGrows (t : List Int) : m_law08_DatabaseGrows t = some true := by
  refine Ok.eq ?_
  unfold m_law08_DatabaseGrows
  refine Ok.bnd (new_ok t) fun s hs => ?_
  refine Ok.bnd (database_ok hs (by omega)) fun a ha => ?_
  refine Ok.bnd (database_ok ha.2 (by omega)) fun b hb => ?_
  have hva := vd_iff.1 (ha.1.2.2 rfl).1
  have hvb := vd_iff.1 (hb.1.2.2 rfl).1
  rw [db_merge ha.1.1, if_pos ⟨vd_iff.2 hva, vd_iff.2 hvb⟩, bnd_s]
  refine Ok.bnd (range_ok hb.2) fun p5 h5 => ?_
  refine Ok.bnd (advert_ok h5.2 (by omega)) fun p6 h6 => ?_
  have hr := h5.1 (by omega) (by omega) (by omega)
  have hx := (h6.2.1 rfl hr.1 (by omega)).1
  rw [db_Put ha.1.1 h6.1, if_pos ⟨vd_iff.2 hva, hx⟩, bnd_s]
  have hvm := hva.merge hvb
  have hvp := hva.put hx
  refine Ok.forN (fun _ _ => True) 0 2 ?_ ?_ _ _ _ rfl (by omega) (by omega) trivial
  · intro i s Z h1 h2 _ hZ
    refine Ok.forM (fun _ _ => True) ?_ _ trivial fun s _ => hZ _ trivial
    intro j x s Z2 _ hxm _ hZ2
    refine Ok.bnd (elO_ok h1 (by simpa using h2)) fun e he => ?_
    have hem : Vd e ∧ GeD a.1 e := by
      have := he.1
      simp only [List.mem_cons, List.not_mem_nil, or_false] at this
      rcases this with rfl | rfl
      · exact ⟨hvm, ge_merge hva hvb⟩
      · exact ⟨hvp, ge_put hva hx (ge_refl _)⟩
    obtain ⟨n, hn, hnr, hnw⟩ := hem.2 x hxm
    rw [db_find hem.1.sm, bnd_s, hem.1.key hn hnr]
    simp only [jn, Bool.not_true, cond_false, ref07_newer, bnd_s, hnw]
    exact hZ2 _ trivial
  · intro i s _ _ _
    simp only [decide_true, cond_true, db_check, bnd_s, vd_iff.2 hvm, vd_iff.2 hvp, awake8]
    exact Ok.s rfl
end Go.Proofs.YtmcjffllahcclaaGreat
