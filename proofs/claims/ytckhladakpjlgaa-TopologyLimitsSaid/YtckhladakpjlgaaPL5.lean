/- Plain: the law TopologyApplies. No condition. -/
import Derived.Test.YtckhladakpjlgaaP5A
import Derived.Test.YtckhladakpjlgaaPA5
import Derived.Test.YtckhladakpjlgaaDL9
namespace Go.Proofs.Ytckhladakpjlgaa
set_option linter.all false
open Go

theorem apply_valid {t : GTopology} {c : GChange} (h : (applyT t c).2 = 0) : chkT (applyT t c).1 = 0 := by
  unfold applyT at h ⊢
  cases he : decide (errC t c = 0)
  · rw [he] at h
    simp only [Bool.not_false, cond_true] at h
    have := of_decide_eq_false he
    exact absurd h this
  simp only [Bool.not_true, cond_false]
  have he := of_decide_eq_true he
  have hc : chkT t = 0 := by
    apply Classical.byContradiction
    intro hn
    simp [errC, hn] at he
  have hv := vt_iff.1 hc
  have hA : hasB t c.A = true := by
    cases q : hasB t c.A
    · simp [errC, hc, q] at he
    · rfl
  have hB : hasB t c.B = true := by
    cases q : hasB t c.B
    · simp [errC, hc, hA, q] at he
    · rfl
  have hab : c.A ≠ c.B := fun e => by simp [errC, hc, hA, hB, e] at he
  cases hg : goneC c
  · simp only [cond_false]
    have hcost : costB c.CostA = true ∧ costB c.CostB = true := by
      cases q1 : costB c.CostA
      · simp [errC, hc, hA, hB, hab, hg, q1] at he
      cases q2 : costB c.CostB
      · simp [errC, hc, hA, hB, hab, hg, q1, q2] at he
      exact ⟨rfl, rfl⟩
    have hlen : thereB t c = false → t.Links.length ≤ 59 := fun ht => by
      have := hv.nl
      have h60 : ¬ (t.Links.length : Int) = 60 := fun h => by simp [errC, hc, hA, hB, hab, hg, hcost, ht, h] at he
      omega
    obtain ⟨p1, _, p3⟩ := place_c hv c
    obtain ⟨d1, d2⟩ := drop_lt hv c
    have hnl := hv.nl
    have hx : ∀ k, 0 ≤ k → k ≤ 1000 → badL { normC c with Capacity := k } = false := fun k h1 h2 => by
      unfold badL normC
      by_cases q : c.B < c.A
      · simp [q, hcost, h1, h2]
      · simp [q, hcost, h1, h2]
    have hends : hasB t (normC c).A = true ∧ hasB t (normC c).B = true := by
      unfold normC
      by_cases q : c.B < c.A
      · simp [q, hA, hB]
      · simp [q, hA, hB]
    have key : ∀ (x : GLink) (pre post : List GLink), x.A = (normC c).A → x.B = (normC c).B → badL x = false → (∀ l ∈ pre, l ∈ t.Links) → (∀ l ∈ post, l ∈ t.Links) → (∀ l ∈ pre, ltL l (normC c) = true) → (∀ l ∈ post, ltL (normC c) l = true) → pre.Pairwise (fun a b => ltL a b = true) → post.Pairwise (fun a b => ltL a b = true) → (pre ++ x :: post).length ≤ 60 → chkT (GTopology.mk t.Routers (pre ++ x :: post)) = 0 := by
      intro x pre post ea eb hb hpre hpost h1 h2 h3 h4 h5
      have hmem : ∀ l ∈ pre ++ x :: post, l ∈ t.Links ∨ l = x := fun l hl => by
        rcases List.mem_append.1 hl with hl | hl
        · exact .inl (hpre l hl)
        · rcases List.mem_cons.1 hl with rfl | hl
          · exact .inr rfl
          · exact .inl (hpost l hl)
      have hlt1 : ∀ l ∈ pre, ltL l x = true := fun l hl => by have := h1 l hl; simp [ltL, ea, eb] at this ⊢; exact this
      have hlt2 : ∀ l ∈ post, ltL x l = true := fun l hl => by have := h2 l hl; simp [ltL, ea, eb] at this ⊢; exact this
      refine vt_iff.2 ⟨hv.nr, h5, hv.idr, hv.asc, fun l hl => ?_, fun l hl => ?_, fun l hl => ?_, ?_⟩
      · rcases hmem l hl with h | rfl
        · exact hv.okl l h
        · exact hb
      · rcases hmem l hl with h | rfl
        · exact hv.ends l h
        · rw [ea, eb]; exact hends
      · rcases hmem l hl with h | rfl
        · exact hv.lt l h
        · rw [ea, eb]; exact norm_lt hab
      · rw [List.pairwise_append, List.pairwise_cons]
        refine ⟨h3, ⟨hlt2, h4⟩, fun a ha b hb => ?_⟩
        rcases List.mem_cons.1 hb with rfl | hb
        · exact hlt1 a ha
        · exact ltL_trans _ _ _ (hlt1 a ha) (hlt2 b hb)
    have hpre : (t.Links.take (atN t c)).Pairwise (fun a b => ltL a b = true) := hv.ascl.sublist (List.take_sublist _ _)
    unfold newLs
    cases ht : thereB t c
    · have hl := hlen ht
      simp only [cond_false]
      have ec : (normC c).Capacity = 0 := by unfold normC; cases decide (c.B < c.A) <;> rfl
      have hx0 := hx 0 (by omega) (by omega)
      have e0 : { normC c with Capacity := 0 } = normC c := by rw [← ec]
      rw [e0] at hx0
      exact key (normC c) _ _ rfl rfl hx0 (fun l h => List.mem_of_mem_take h) (fun l h => List.mem_of_mem_drop h) p1 (d1 ht) hpre (hv.ascl.sublist (List.drop_sublist _ _)) (by simp; omega)
    · obtain ⟨hl, e1, e2, e3, e4⟩ := el_there ht
      simp only [cond_true]
      have hin : el t.Links (atN t c) ∈ t.Links := el_mem hl
      have hbad := hv.okl _ hin
      unfold badL at hbad
      simp only [Bool.or_eq_false_iff, decide_eq_false_iff_not] at hbad
      exact key { normC c with Capacity := (el t.Links (atN t c)).Capacity } _ _ rfl rfl (hx _ (by omega) (by omega)) (fun l h => List.mem_of_mem_take h) (fun l h => List.mem_of_mem_drop h) p1 (d2 ht) hpre (hv.ascl.sublist (List.drop_sublist _ _)) (by simp; omega)
  · simp only [cond_true]
    have ht : thereB t c = true := by
      cases q : thereB t c
      · simp [errC, hc, hA, hB, hab, hg, q] at he
      · rfl
    rw [← wo_del hv hab ht]
    exact vt_iff.2 (hv.wo _)
theorem plain_TopologyApplies (t : List Int) (raw : GChange) : m_law05_TopologyApplies t raw = some true := by
  refine Ok.eq ?_
  unfold m_law05_TopologyApplies
  refine Ok.bnd (new_ok t) fun s hs => ?_
  refine Ok.bnd (topol_ok hs (by omega) (by omega)) fun g hg => ?_
  obtain ⟨⟨g1, g2, g3⟩, gt⟩ := hg
  refine Ok.bnd (change_ok gt (by omega) (by omega)) fun c1 h1 => ?_
  refine Ok.bnd (change_ok h1 (by omega) (by omega)) fun c2 h2 => ?_
  refine Ok.forM (fun _ _ => True) (fun j x s Z _ _ _ hZ => ?_) _ trivial fun s _ => ?_
  · rw [top_Apply _ _ (by omega), bnd_s, ref_Apply, bnd_s]
    simp only [jn, same_self, bnd_s, decide_true, Bool.not_true, cond_false]
    refine Ok.cs (fun he => ?_) fun _ => hZ _ trivial
    rw [top_check, bnd_s, apply_valid (of_decide_eq_true he)]
    exact hZ _ trivial
  · rw [awake5]; exact Ok.s rfl
end Go.Proofs.Ytckhladakpjlgaa
