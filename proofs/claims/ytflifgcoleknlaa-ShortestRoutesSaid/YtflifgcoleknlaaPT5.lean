/- Plain: the law of the routes. No condition. -/
import Derived.Test.YtflifgcoleknlaaPN
import Derived.Test.YtflifgcoleknlaaDL5
namespace Go.Proofs.Ytflifgcoleknlaa
set_option linter.all false
open Go
theorem plain_ShortestRoutes (t : List Int) : m_law06_ShortestRoutes t = some true := by
 unfold m_law06_ShortestRoutes
 refine Ok.eq (Ok.bnd (new_ok t) fun s hs => Ok.bnd (topol_valid hs (by decide)) fun p hp => ?_)
 obtain ⟨⟨hv, hn, _⟩, hp2⟩ := hp
 refine Ok.bnd (router_in hp2 (by omega)) fun r1 hr1 => Ok.bnd (router_in hr1.2 (by omega)) fun r2 hr2 => ?_
 obtain ⟨a, t1⟩ := r1
 obtain ⟨b, t2⟩ := r2
 simp only at hr1 hr2 ⊢
 have ha := hr1.1
 have hb := hr2.1
 rw [top_Route6, bnd_s, top_Cost6, bnd_s]
 by_cases hab : a = b
 ·subst hab
  rw [costT_some (dT_self hv ha), route_self, awake6]
  simp only [decide_true, Bool.true_or, cond_true, List.length_nil, beq_self_eq_true]
  exact .s rfl
 ·rw [decide_eq_false hab, Bool.false_or]
  cases hd : dT p.1 a b with
  | none =>
   have hr : routeT p.1 a b = [] := by unfold routeT; exact rtF_bad b (nextT_none hd) hab []
   rw [costT_none hd, hr, awake6]
   exact .s rfl
  | some k =>
   have hds : (dT p.1 a b).isSome = true := by rw [hd]; rfl
   obtain ⟨y, r, h1, h2⟩ := route_cons hd hab
   rw [costT_some hd]
   simp only [Bool.not_true, cond_false]
   rw [top_Next6, bnd_s]
   have hend := route_end hds
   have hcost := route_cost hd
   have hrest := route_rest hds
   have hlen := route_len hds
   have hrk := rk_lt hv (x := a) hb
   have hil := ids_len hv
   generalize hR : routeT p.1 a b = R at h2 hend hcost hrest hlen ⊢
   have hR1 : 1 ≤ R.length := by rw [h2]; simp
   refine Ok.jn (fun v => v = false) (fun v hvv => ?_) fun J hJ => ?_
   ·subst hvv
    rw [cond_false]
    refine Ok.whl (fun i => 0 ≤ i ∧ i ≤ (R.length : Int)) (fun i => (R.length - i).toNat) (s := (0:Int)) ⟨Int.le_refl _, by omega⟩ (by omega) fun i Z hi hZ => ?_
    have hw : w64 (i + 1) = i + 1 := w64_sm (by omega) (by omega)
    refine Ok.cs (fun hc => ?_) fun _ => by rw [awake6]; exact .s rfl
    rw [hw] at hc
    have hc := of_decide_eq_true hc
    refine Ok.bnd (elO_ok hi.1 (by omega)) fun z hz => ?_
    rw [top_Route6, bnd_s, hw]
    refine Ok.bnd (sli_ok ⟨by omega, by omega, Int.le_refl _⟩) fun l hl => ?_
    have e : routeT p.1 z b = l := by
     rw [hl.1, hrest i.toNat z hz.2]
     simp only [Int.toNat_natCast, List.take_length]
     rw [show (i + 1).toNat = i.toNat + 1 by omega]
    rw [ints_eq e, bnd_s, Bool.not_true, cond_false]
    exact hZ (i + 1) ⟨by omega, by omega⟩ (by omega)
   ·rw [decide_eq_false (show ¬ (R.length : Int) = 0 by omega), cond_false, w64_sm (by omega) (by omega)]
    have hlast : R[((R.length : Int) - 1).toNat]? = some b := by
     rw [h2, List.getLast?_cons_cons, ← h2, List.getLast?_eq_getElem?] at hend
     rw [show ((R.length : Int) - 1).toNat = R.length - 1 by omega]
     exact hend
    refine Ok.bnd (P := fun z => z = b) ⟨b, by unfold elO; rw [if_pos (by omega)]; exact hlast, rfl⟩ fun z hz => ?_
    subst hz
    rw [decide_eq_true rfl, Bool.not_true, cond_false, hcost, bnd_s, decide_eq_true rfl, Bool.not_true, cond_false, h1]
    simp only [List.length_cons]
    rw [decide_eq_false (by omega), cond_false]
    have e0 : elO R (0:Int) = some y := by rw [h2]; rfl
    rw [e0, bnd_s]
    show Ok (bnd (some y) fun e_3 => J (!decide (y = e_3))) _
    rw [bnd_s, decide_eq_true rfl]
    exact hJ _ rfl
end Go.Proofs.Ytflifgcoleknlaa
