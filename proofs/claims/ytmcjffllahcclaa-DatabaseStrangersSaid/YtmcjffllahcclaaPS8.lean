/- Plain: the law DatabaseStrangers. No condition. -/
import Derived.Test.YtmcjffllahcclaaP8W
import Derived.Test.YtmcjffllahcclaaP8T
import Derived.Test.YtmcjffllahcclaaPA8
import Derived.Test.YtmcjffllahcclaaDL6
namespace Go.Proofs.Ytmcjffllahcclaa
set_option linter.all false
open Go

theorem db_view_eq {d : GDatabase} (hd : SmD d) {at1 : Int} {T : GTopology} (h : ViewP d at1 T) : m_database_View d at1 = some T := by
  obtain ⟨U, h1, h2⟩ := db_view hd at1
  rw [h1, h2.unique h]
theorem plain_DatabaseStrangers (t : List Int) : m_law08_DatabaseStrangers t = some true := by
  refine Ok.eq ?_
  unfold m_law08_DatabaseStrangers
  refine Ok.bnd (new_ok t) fun s hs => ?_
  refine Ok.bnd (database_ok hs (by omega)) fun d hd => ?_
  obtain ⟨hv, h6, hn6⟩ := hd.1.2.2 rfl
  have hv := vd_iff.1 hv
  refine Ok.bnd (advert_ok hd.2 (by omega)) fun x hx => ?_
  obtain ⟨hxv, hxr, hxn⟩ := hx.2.1 rfl (by omega) (by omega)
  have hu : (findA d.1 x.1.Router).2 = false := by
    rcases find_cases d.1 x.1.Router with ⟨b, hb, he, _⟩ | ⟨_, hf⟩
    · have := h6 b hb; omega
    · rw [hf]
  rw [db_Put_no hv hx.1 hxv hu, bnd_s]
  simp only [Bool.not_true, cond_false]
  have hvu : Vd (withT d.1 x.1) := hv.with hxv
  generalize hU : withT d.1 x.1 = u at hvu ⊢
  have hmem : ∀ y, y ∈ u.Adverts ↔ y = x.1 ∨ y ∈ d.1.Adverts := fun y => by
    rw [← hU, with_mem]
    constructor
    · rintro (h | h); exact .inl h; exact .inr h.1
    · rintro (h | h); exact .inl h; exact .inr ⟨h, by have := h6 y h; omega⟩
  -- who names whom
  have hnm : ∀ y ∈ u.Adverts, ∀ q ∈ y.Links, q.Neighbour ≠ 50 := fun y hy q hq => by
    rcases (hmem y).1 hy with rfl | hy
    · have := hxn q hq; omega
    · have := hn6 y hy q hq; omega
  have hin : ∀ y ∈ u.Adverts, ∀ p ∈ u.Adverts, (∃ q ∈ p.Links, q.Neighbour = y.Router) → y ∈ d.1.Adverts := fun y hy p hp ⟨q, hq, e⟩ => by
    rcases (hmem y).1 hy with rfl | h
    · exact absurd (e.trans hxr) (hnm p hp q hq)
    · exact h
  have hlk : ∀ a b, LkD u a b ↔ LkD d.1 a b := fun a b => by
    constructor
    · rintro ⟨y, hy, z, hz, e1, e2, p, q⟩
      refine ⟨y, hin y hy z hz ?_, z, hin z hz y hy ?_, e1, e2, p, q⟩
      · obtain ⟨q, hq, e⟩ := q; exact ⟨q, hq, e.trans e1.symm⟩
      · obtain ⟨p, hp, e⟩ := p; exact ⟨p, hp, e.trans e2.symm⟩
    · rintro ⟨y, hy, z, hz, r⟩
      exact ⟨y, (hmem y).2 (.inr hy), z, (hmem z).2 (.inr hz), r⟩
  have hrd : ∀ a b, Rd u a b ↔ Rd d.1 a b := fun a b => by
    constructor
    · intro h
      induction h with
      | refl => exact .refl
      | step _ hl ih => exact .step ih ((hlk _ _).1 hl)
    · intro h
      induction h with
      | refl => exact .refl
      | step _ hl ih => exact .step ih ((hlk _ _).2 hl)
  have hrd6 : ∀ a b, a ∈ rts d.1 → Rd d.1 a b → b ≤ 6 := fun a b ha h => by
    obtain ⟨y, hy, e⟩ := List.mem_map.1 (rd_in ha h)
    have := h6 y hy; omega
  have hsmu : SmD u := hvu.sm
  refine Ok.forM (fun _ _ => True) ?_ _ trivial fun s _ => ?_
  · intro j y s Z _ hy _ hZ
    have hry : y.Router ∈ rts d.1 := List.mem_map.2 ⟨y, hy, rfl⟩
    obtain ⟨T, hT1, hT⟩ := db_view hd.1.1 y.Router
    have hTu : ViewP u y.Router T := by
      rcases hT with ⟨hno, _⟩ | ⟨_, T0, hV, e⟩
      · exact absurd ⟨⟨y, hy, rfl⟩, hv⟩ hno
      · refine .inr ⟨⟨⟨y, (hmem y).2 (.inr hy), rfl⟩, hvu⟩, T0, ⟨hV.rasc, fun r => ?_, hV.lasc, fun l => ?_⟩, e⟩
        · rw [hV.rmem]
          constructor
          · rintro ⟨a, ha, h1, h2⟩; exact ⟨a, (hmem a).2 (.inr ha), (hrd _ _).2 h1, h2⟩
          · rintro ⟨a, ha, h1, h2⟩
            rcases (hmem a).1 ha with rfl | ha
            · have := hrd6 _ _ hry ((hrd _ _).1 h1); omega
            · exact ⟨a, ha, (hrd _ _).1 h1, h2⟩
        · rw [hV.lmem]
          constructor
          · rintro ⟨a, ha, h1, b, hb, h2⟩; exact ⟨a, (hmem a).2 (.inr ha), (hrd _ _).2 h1, b, (hmem b).2 (.inr hb), h2⟩
          · rintro ⟨a, ha, h1, b, hb, h2⟩
            obtain ⟨p, hp, q, hq, h3, e1, e2, h4⟩ := id h2
            exact ⟨a, hin a ha b hb ⟨q, hq, e2⟩, (hrd _ _).1 h1, b, hin b hb a ha ⟨p, hp, e1⟩, h2⟩
    rw [hT1, db_view_eq hsmu hTu]
    simp only [bnd_s, same_self, Bool.not_true, cond_false]
    exact hZ _ trivial
  · have hno : ∀ b, Rd u 50 b → b = 50 := fun b h => by
      induction h with
      | refl => rfl
      | step _ hl ih =>
        subst ih
        obtain ⟨y, hy, z, hz, e1, e2, p, q, hq, e⟩ := hl
        exact absurd e (hnm z hz q hq)
    have hT : ViewP u 50 (GTopology.mk [GRouter.mk 50 x.1.Capable] []) := by
      refine .inr ⟨⟨⟨x.1, (hmem _).2 (.inl rfl), hxr⟩, hvu⟩, GTopology.mk [GRouter.mk 50 x.1.Capable] [], ⟨by simp, fun r => ?_, by simp, fun l => ?_⟩, ?_⟩
      · simp only [List.mem_singleton]
        constructor
        · rintro rfl; exact ⟨x.1, (hmem _).2 (.inl rfl), by rw [hxr]; exact .refl, by rw [hxr]⟩
        · rintro ⟨a, ha, h1, rfl⟩
          rcases (hmem a).1 ha with rfl | ha
          · rw [hxr]
          · have := hno _ h1; have := h6 a ha; omega
      · simp only [List.not_mem_nil, false_iff]
        rintro ⟨a, ha, h1, b, hb, p, hp, q, hq, h3, e1, e2, h4⟩
        have := hno _ h1
        exact hnm b hb q hq (e2.trans this)
      · rw [if_pos]
        cases x.1.Capable <;> decide
    rw [db_view_eq hsmu hT]
    simp only [bnd_s, awake8, List.length_cons, List.length_nil]
    exact Ok.s rfl
end Go.Proofs.Ytmcjffllahcclaa
