/- Plain: the advert of a router of a topology, by the specification. No condition but those that stand in each. -/
import Derived.Test.YtmcjffllahcclaaGreatP8V
import Derived.Test.YtmcjffllahcclaaGreatDA
namespace Go.Proofs.YtmcjffllahcclaaGreat
set_option linter.all false
open Go

def linkR (t : GTopology) (r n : Int) : GReach := match t.Links.find? (fun l => eitherB l r n) with | some l => GReach.mk n (priceOf r n l).1 l.Capacity | none => GReach.mk n 0 0
def capR (t : GTopology) (r : Int) : Bool := match t.Routers.find? (fun x => decide (x.ID = r)) with | some x => x.Capable | none => false
def ofA (t : GTopology) (r seq : Int) (cl : List GClaim) : GAdvert := GAdvert.mk r seq (capR t r) ((nearL t r).map (linkR t r)) cl
theorem capR_eq {t : GTopology} (hv : Vt t) {x : GRouter} (hx : x ∈ t.Routers) : capR t x.ID = x.Capable := by
  unfold capR
  cases hf : t.Routers.find? (fun y => decide (y.ID = x.ID)) with
  | none => have := List.find?_eq_none.1 hf x hx; simp at this
  | some y =>
    have h1 := List.mem_of_find?_eq_some hf
    have h2 := List.find?_some hf
    simp only [uniq_r hv h1 hx (by simpa using h2)]
theorem linkR_n (t : GTopology) (r n : Int) : (linkR t r n).Neighbour = n := by unfold linkR; split <;> rfl
theorem linkR_of {t : GTopology} (hv : Vt t) {a b : Int} {l : GLink} (hl : l ∈ t.Links) (he : eitherB l a b = true) : linkR t a b = GReach.mk b (priceOf a b l).1 l.Capacity := by
  unfold linkR
  cases hf : t.Links.find? (fun l => eitherB l a b) with
  | none => exact absurd he (List.find?_eq_none.1 hf l hl)
  | some x =>
    have hx := List.mem_of_find?_eq_some hf
    have hp := List.find?_some hf
    have h1 := hv.lt _ hl
    have h2 := hv.lt _ hx
    simp [eitherB] at he hp
    rw [uniq_l hv hx hl (by omega) (by omega)]
theorem linkR_A {t : GTopology} (hv : Vt t) {l : GLink} (hl : l ∈ t.Links) : linkR t l.A l.B = GReach.mk l.B l.CostA l.Capacity := by
  rw [linkR_of hv hl (by simp [eitherB])]; simp [priceOf]
theorem linkR_B {t : GTopology} (hv : Vt t) {l : GLink} (hl : l ∈ t.Links) : linkR t l.B l.A = GReach.mk l.A l.CostB l.Capacity := by
  have := hv.lt _ hl
  rw [linkR_of hv hl (by simp [eitherB])]
  have e : (decide (l.A = l.B) && decide (l.B = l.A)) = false := by simp; omega
  simp only [priceOf, e, cond_false]
theorem ref_capR {t : GTopology} (hv : Vt t) (r : Int) : m_ref05_Capable t r = some (capR t r) := by
  unfold m_ref05_Capable
  simp only [ref_check, bnd_s, vt_iff.2 hv, decide_true, Bool.not_true, cond_false]
  refine (find_loop (fun x : GRouter => decide (x.ID = r)) (fun x => some x.Capable) (fun _ _ _ _ => rfl) _ _ _).trans ?_
  unfold capR
  cases t.Routers.find? (fun x => decide (x.ID = r)) <;> rfl
theorem near_len {t : GTopology} (hv : Vt t) {r : Int} (hr : r ∈ ids t) : (nearL t r).length ≤ 23 := by
  have h1 : r ∉ nearL t r := fun h => adj_ne hv ((nearL_mem hv).1 h) rfl
  have h2 : (nearL t r).Nodup := (nearL_lt hv r).imp fun h => by omega
  have := nodup_len (a := r :: nearL t r) (b := ids t) (List.nodup_cons.2 ⟨h1, h2⟩) fun x hx => by
    rcases List.mem_cons.1 hx with rfl | hx
    · exact hr
    · exact (List.mem_filter.1 hx).1
  have h3 := ids_len hv
  simp only [List.length_cons] at this
  omega
theorem ref07_of {t : GTopology} (hv : Vt t) {r : Int} (hr : r ∈ ids t) (seq : Int) (cl : List GClaim) : m_ref07_Of t r seq cl = some (bif validB (ofA t r seq cl) then (ofA t r seq cl, 0) else (noA, 2)) := by
  refine Ok.eq ?_
  unfold m_ref07_Of
  simp only [ref_check, ref_Has, ref_capR hv, ref_near hv, bnd_s, vt_iff.2 hv, ids_has.1 hr, decide_true, Bool.not_true, cond_false, Bool.true_and]
  refine Ok.forL (fun P (m : List GReach) => m = P.map (linkR t r)) ?_ _ rfl ?_
  · rintro P n rest m Z hL rfl hZ
    have hadj : adjT t r n = true := (nearL_mem hv).1 (by rw [hL]; simp)
    have hlen : P.length < (nearL t r).length := by rw [hL]; simp
    have hl23 := near_len hv hr
    obtain ⟨l, hl, hc⟩ := adj_iff.1 hadj
    have hlt := hv.lt l hl
    have he : eitherB l r n = true := by simp [eitherB]; omega
    rw [ref_price, bnd_s]
    refine Ok.forL (fun P2 (m2 : Int) => l ∈ P2 → m2 = l.Capacity) ?_ _ (by simp) ?_
    · rintro P2 x rest2 m2 Z2 hL2 hm2 hZ2
      have hx : x ∈ t.Links := by rw [hL2]; simp
      have hmin : (if n < r then n else r) = l.A := by split <;> omega
      have hmax : (if n > r then n else r) = l.B := by split <;> omega
      rw [hmin, hmax]
      simp only [jn]
      refine Ok.cs (fun h => ?_) fun h => ?_
      · simp at h
        refine hZ2 _ fun _ => ?_
        rw [uniq_l hv hx hl h.1 h.2]
      · refine hZ2 _ fun hm => ?_
        rcases List.mem_append.1 hm with hm | hm
        · exact hm2 hm
        · simp at hm; subst hm; simp at h
    · intro m2 hm2
      rw [appO_ok (by simp; omega), bnd_s]
      refine hZ _ ?_
      rw [List.map_append, hm2 hl, List.map_cons, List.map_nil, linkR_of hv hl he, price_eq hv hl he]
  · rintro m rfl
    rw [ref07_valid, bnd_s]
    show Ok (bif !validB (ofA t r seq cl) then _ else _) _
    cases validB (ofA t r seq cl)
    · exact Ok.s rfl
    · exact Ok.s rfl
theorem pw_adj {α : Type} {p : α → α → Bool} {l : List α} (h : l.Pairwise fun a b => p a b = true) : adjB p l = true := pairwise_adj h
/-- what makes the advert of a router valid -/
theorem ofA_valid {t : GTopology} (hv : Vt t) {r : Int} (hr : r ∈ ids t) (seq : Int) (cl : List GClaim) : validB (ofA t r seq cl) = (inB seq 1 1000000 && (decide ((cl.length : Int) ≤ 8) && (cl.all goodC && ascC cl))) := by
  have h23 := near_len hv hr
  have hr99 : inB r 1 99 = true := by
    obtain ⟨x, hx, e⟩ := List.mem_map.1 hr
    have := hv.idr x hx
    simp only [inB, Bool.and_eq_true, decide_eq_true_eq]; omega
  have hgood : ((nearL t r).map (linkR t r)).all (goodR (ofA t r seq cl)) = true := by
    rw [List.all_eq_true]
    intro x hx
    obtain ⟨n, hn, rfl⟩ := List.mem_map.1 hx
    have hadj := (nearL_mem hv).1 hn
    obtain ⟨y, hy, e⟩ := List.mem_map.1 (adj_ids hv hadj)
    have hid := hv.idr y hy
    obtain ⟨l, hl, hc⟩ := adj_iff.1 hadj
    have hlt := hv.lt l hl
    have hb := hv.okl l hl
    simp only [badL, costB, Bool.or_eq_false_iff, Bool.not_eq_false', Bool.and_eq_true, decide_eq_true_eq, decide_eq_false_iff_not] at hb
    have hne := adj_ne hv hadj
    rw [linkR_of hv hl (by simp [eitherB]; omega)]
    have hp : 1 ≤ (priceOf r n l).1 ∧ (priceOf r n l).1 ≤ 1000 := by
      unfold priceOf
      simp only
      cases (decide (l.A = r) && decide (l.B = n)) <;> simp <;> omega
    have er : (ofA t r seq cl).Router = r := rfl
    simp only [goodR, inB, er, Bool.and_eq_true, decide_eq_true_eq, Bool.not_eq_true', decide_eq_false_iff_not]
    exact ⟨⟨⟨⟨by omega, by omega⟩, fun h => hne h.symm⟩, hp⟩, by omega, by omega⟩
  have hasc : ascL ((nearL t r).map (linkR t r)) = true := by
    refine pw_adj (List.pairwise_map.2 ((nearL_lt hv r).imp fun h => ?_))
    simp only [linkR_n, decide_eq_true_eq]; exact h
  have e1 : (ofA t r seq cl).Links = (nearL t r).map (linkR t r) := rfl
  unfold validB
  rw [e1, hgood, hasc]
  have e2 : decide ((((nearL t r).map (linkR t r)).length : Int) ≤ 23) = true := by simp; omega
  rw [e2]
  show (inB r 1 99 && inB seq 1 1000000 && true && (true && true) && (decide ((cl.length : Int) ≤ 8) && (cl.all goodC && ascC cl))) = _
  rw [hr99]; simp
end Go.Proofs.YtmcjffllahcclaaGreat
