/- Plain: the law TopologyWeak. No condition. -/
import Derived.Test.YtggbjbcgfelgiaaP2
import Derived.Test.YtggbjbcgfelgiaaP5
import Derived.Test.YtggbjbcgfelgiaaPA5
import Derived.Test.YtggbjbcgfelgiaaDL5
namespace Go.Proofs.Ytggbjbcgfelgiaa
set_option linter.all false
open Go

theorem mk_same_self (l : List GHop) : m_mk_Same l l = some true := by
  unfold m_mk_Same
  simp only [decide_true, Bool.not_true, cond_false]
  refine forI_pre (L := l) (f := fun _ _ _ => some true) ?_ ?_ l [] () rfl
  · intros; rfl
  · intro p x r s Z h hZ
    have : eqGHop x x = true := (eqGHop_iff x x).2 rfl
    simp only [← h, elO_at, bnd_s, this, Bool.not_true, cond_false, hZ]
noncomputable def nC (t : GTopology) : Nat := ((ids t).filter (minB t)).length
theorem compsL_len (t : GTopology) : (compsL t).length = nC t := by simp [compsL, nC]
theorem filter_lt {α : Type} {p q : α → Bool} : ∀ {l : List α}, (∀ x ∈ l, p x = true → q x = true) → (∃ x ∈ l, q x = true ∧ p x = false) → (l.filter p).length < (l.filter q).length
  | [], _, h => by obtain ⟨x, hx, _⟩ := h; cases hx
  | x :: r, h1, h2 => by
    have hle : (r.filter p).length ≤ (r.filter q).length := by
      have : ∀ (r : List α), (∀ x ∈ r, p x = true → q x = true) → (r.filter p).length ≤ (r.filter q).length := by
        intro r
        induction r with
        | nil => simp
        | cons y r ih =>
          intro h
          have ih := ih fun x hx => h x (by simp [hx])
          have := h y (by simp)
          rw [List.filter_cons, List.filter_cons]
          cases hp : p y <;> cases hq : q y <;> simp_all <;> omega
      exact this r fun x hx => h1 x (by simp [hx])
    have hx := h1 x (by simp)
    rw [List.filter_cons, List.filter_cons]
    obtain ⟨y, hy, hq, hp⟩ := h2
    rcases List.mem_cons.1 hy with rfl | hy
    · rw [hq, hp]; simp; omega
    · have ih := filter_lt (l := r) (fun x hx => h1 x (by simp [hx])) ⟨y, hy, hq, hp⟩
      cases hp2 : p x <;> cases hq2 : q x <;> simp_all <;> omega
/-! ## a link less -/
theorem woL_adj {t : GTopology} {l : GLink} {a b : Int} (h : adjT (woL t l) a b = true) : adjT t a b = true := by
  rw [adj_iff] at h ⊢
  obtain ⟨x, hx, h⟩ := h
  exact ⟨x, (List.mem_filter.1 hx).1, h⟩
theorem woL_adj2 {t : GTopology} {l : GLink} {a b : Int} (h : adjT t a b = true) : adjT (woL t l) a b = true ∨ (a = l.A ∧ b = l.B) ∨ (a = l.B ∧ b = l.A) := by
  rw [adj_iff] at h
  obtain ⟨x, hx, h⟩ := h
  by_cases hg : goneB (GFailure.mk [GHop.mk l.A l.B] []) x = true
  · right
    simp [goneB, hopB, eqGHop] at hg
    omega
  · left
    rw [adj_iff]
    exact ⟨x, List.mem_filter.2 ⟨hx, by simpa using hg⟩, h⟩
theorem woL_cn {t : GTopology} {l : GLink} {a b : Int} (h : Cn (woL t l) [] a b) : Cn t [] a b := by
  induction h with
  | refl _ => exact self_cn
  | step _ hd _ ih => exact .step ih (woL_adj hd) (by simp)
theorem woL_cn2 {t : GTopology} {l : GLink} {a b : Int} (hl : Cn (woL t l) [] l.A l.B) (h : Cn t [] a b) : Cn (woL t l) [] a b := by
  induction h with
  | refl _ => exact self_cn
  | step _ hd _ ih =>
    rcases woL_adj2 (l := l) hd with h | ⟨rfl, rfl⟩ | ⟨rfl, rfl⟩
    · exact .step ih h (by simp)
    · exact ih.trans hl
    · exact ih.trans hl.symm
theorem more_link {t : GTopology} (hv : Vt t) {l : GLink} (hl : l ∈ t.Links) : decide ((nC t : Int) < nC (woL t l)) = brB t l := by
  have hu : Vt (woL t l) := hv.wo _
  have he := hv.ends l hl
  have ha : l.A ∈ ids t := ids_has.2 he.1
  have hb : l.B ∈ ids t := ids_has.2 he.2
  have hadj : adjT t l.A l.B = true := adj_iff.2 ⟨l, hl, .inl ⟨rfl, rfl⟩⟩
  unfold nC brB
  rw [woL_ids]
  by_cases hc : Cn (woL t l) [] l.A l.B
  · have : ∀ x ∈ ids t, minB (woL t l) x = minB t x := by
      intro x _
      rw [Bool.eq_iff_iff, minB_iff, minB_iff]
      exact ⟨fun h y hy => h y (woL_cn2 hc hy), fun h y hy => h y (woL_cn hy)⟩
    rw [List.filter_congr this]; simp [hc]
  · have : ((ids t).filter (minB t)).length < ((ids t).filter (minB (woL t l))).length := by
      refine filter_lt (fun x _ h => ?_) ?_
      · rw [minB_iff] at h ⊢
        exact fun y hy => h y (woL_cn hy)
      · obtain ⟨a, a1, a2, a3⟩ := comp_min hu (r := l.A) (by rw [woL_ids]; exact ha)
        obtain ⟨b, b1, b2, b3⟩ := comp_min hu (r := l.B) (by rw [woL_ids]; exact hb)
        rw [woL_ids] at a2 b2
        have hab : Cn t [] a b := ((woL_cn a1).symm.trans (.step self_cn hadj (by simp))).trans (woL_cn b1)
        by_cases hm : minP t a
        · refine ⟨b, b2, minB_iff.2 b3, ?_⟩
          rw [← Bool.not_eq_true, minB_iff]
          intro hm2
          have := min_unique hm hm2 hab
          subst this
          exact hc (a1.trans b1.symm)
        · exact ⟨a, a2, minB_iff.2 a3, by rw [← Bool.not_eq_true, minB_iff]; exact hm⟩
    simp [hc]; omega
theorem named_bridge {t : GTopology} (hv : Vt t) {l : GLink} (hl : l ∈ t.Links) : (hopB (bridgesL t) l.A l.B || hopB (bridgesL t) l.B l.A) = brB t l := by
  have h1 : hopB (bridgesL t) l.A l.B = true ↔ brB t l = true := by
    simp only [hopB, List.any_eq_true, eqGHop_iff, bridgesL, List.mem_map, List.mem_filter]
    constructor
    · rintro ⟨x, ⟨y, ⟨hy, hb⟩, rfl⟩, h⟩
      injection h with e1 e2
      rw [uniq_l hv hl hy e1 e2]; exact hb
    · intro h; exact ⟨_, ⟨l, ⟨hl, h⟩, rfl⟩, rfl⟩
  have h2 : hopB (bridgesL t) l.B l.A = false := by
    unfold hopB bridgesL
    rw [any_false]
    intro x hx
    obtain ⟨y, hy, rfl⟩ := List.mem_map.1 hx
    rw [← Bool.not_eq_true, eqGHop_iff]
    intro h
    injection h with e1 e2
    have := hv.lt l hl
    have := hv.lt y (List.mem_filter.1 hy).1
    omega
  rw [h2, Bool.or_false, Bool.eq_iff_iff, h1]
/-! ## a router less -/
theorem len_split {α : Type} (p q : α → Bool) : ∀ l : List α, (l.filter p).length = (l.filter fun x => p x && q x).length + (l.filter fun x => p x && !q x).length
  | [] => rfl
  | x :: r => by
    have := len_split p q r
    rw [List.filter_cons, List.filter_cons, List.filter_cons]
    cases p x <;> cases q x <;> simp [this] <;> omega
open Classical in
noncomputable def inC (t : GTopology) (r x : Int) : Bool := decide (Cn t [] r x)
theorem inC_iff {t : GTopology} {r x : Int} : inC t r x = true ↔ Cn t [] r x := by simp [inC]
theorem two_of {l : List Int} (h : l.Nodup) {x y : Int} (hx : x ∈ l) (hy : y ∈ l) (hne : x ≠ y) : 2 ≤ l.length := by
  have := nodup_len (a := [x, y]) (b := l) (by simp [hne]) (by intro z hz; simp at hz; rcases hz with rfl | rfl <;> assumption)
  simpa using this
theorem more_router {t : GTopology} (hv : Vt t) {r : Int} (hr : r ∈ ids t) : decide ((nC t : Int) < nC (woR t r)) = cutB t r := by
  have hu : Vt (woR t r) := hv.wo _
  have hin : (ids t).Nodup := (ids_lt hv).imp (fun h => by omega)
  have hun : (ids (woR t r)).Nodup := (ids_lt hu).imp (fun h => by omega)
  have hids : ids (woR t r) = (ids t).filter (fun x => decide (x ≠ r)) := by
    refine lt_unique (ids_lt hu) ((ids_lt hv).sublist List.filter_sublist) fun x => ?_
    rw [woR_ids, List.mem_filter]; simp
  -- away from the router's component nothing changes
  have far : ∀ x, x ≠ r → ¬ Cn t [] r x → ∀ y, Cn (woR t r) [] x y ↔ Cn t [] x y := by
    intro x hx hn y
    rw [woR_cn hx]
    exact ⟨cn_all, fun h => (cn_through hx h).resolve_right fun h2 => hn h2.symm⟩
  have e1 : ((ids t).filter fun x => minB t x && !inC t r x).length = ((ids (woR t r)).filter fun x => minB (woR t r) x && !inC t r x).length := by
    rw [hids, List.filter_filter]
    congr 1
    refine List.filter_congr fun x hx => ?_
    by_cases hc : Cn t [] r x
    · simp [inC_iff.2 hc]
    · have hxr : x ≠ r := by rintro rfl; exact hc self_cn
      have : minB (woR t r) x = minB t x := by
        rw [Bool.eq_iff_iff, minB_iff, minB_iff]
        exact ⟨fun h y hy => h y ((far x hxr hc y).2 hy), fun h y hy => h y ((far x hxr hc y).1 hy)⟩
      simp [this, hxr]
  have e2 : ((ids t).filter fun x => minB t x && inC t r x).length = 1 := by
    obtain ⟨m, m1, m2, m3⟩ := comp_min hv hr
    have : ((ids t).filter fun x => minB t x && inC t r x) = [m] := by
      refine lt_unique ((ids_lt hv).sublist List.filter_sublist) (by simp) fun x => ?_
      rw [List.mem_filter, Bool.and_eq_true, minB_iff, inC_iff]
      simp only [List.mem_cons, List.not_mem_nil, or_false]
      constructor
      · rintro ⟨_, h1, h2⟩; exact min_unique h1 m3 (h2.symm.trans m1)
      · rintro rfl; exact ⟨m2, m3, m1⟩
    rw [this]; rfl
  have e3 : cutP t r ↔ 2 ≤ ((ids (woR t r)).filter fun x => minB (woR t r) x && inC t r x).length := by
    have hnd : ((ids (woR t r)).filter fun x => minB (woR t r) x && inC t r x).Nodup := hun.sublist List.filter_sublist
    have hmem : ∀ x, x ∈ ((ids (woR t r)).filter fun x => minB (woR t r) x && inC t r x) ↔ x ∈ ids t ∧ x ≠ r ∧ minP (woR t r) x ∧ Cn t [] r x := by
      intro x; rw [List.mem_filter, Bool.and_eq_true, minB_iff, inC_iff, woR_ids, and_assoc]
    constructor
    · rintro ⟨x, y, hx, hy, hxr, hyr, hc, hn⟩
      have hxc : Cn t [] x r := (cn_through hxr hc).resolve_left hn
      have hyc : Cn t [] y r := hc.symm.trans hxc
      obtain ⟨a, a1, a2, a3⟩ := comp_min hu (r := x) (woR_ids.2 ⟨hx, hxr⟩)
      obtain ⟨b, b1, b2, b3⟩ := comp_min hu (r := y) (woR_ids.2 ⟨hy, hyr⟩)
      have ha := woR_ids.1 a2
      have hb := woR_ids.1 b2
      have ca := cn_all ((woR_cn hxr).1 a1)
      have cb := cn_all ((woR_cn hyr).1 b1)
      refine two_of hnd ((hmem a).2 ⟨ha.1, ha.2, a3, hxc.symm.trans ca⟩) ((hmem b).2 ⟨hb.1, hb.2, b3, hyc.symm.trans cb⟩) ?_
      rintro rfl
      exact hn ((woR_cn hxr).1 (a1.trans b1.symm))
    · intro h2
      generalize hL : ((ids (woR t r)).filter fun x => minB (woR t r) x && inC t r x) = L at *
      match L, h2, hnd, hmem with
      | x :: y :: l, _, hnd, hmem =>
        obtain ⟨x1, x2, x3, x4⟩ := (hmem x).1 (by simp)
        obtain ⟨y1, y2, y3, y4⟩ := (hmem y).1 (by simp)
        refine ⟨x, y, x1, y1, x2, y2, x4.symm.trans y4, fun hc => ?_⟩
        have := min_unique x3 y3 ((woR_cn x2).2 hc)
        subst this
        simp at hnd
  have s1 := len_split (minB t) (inC t r) (ids t)
  have s2 := len_split (minB (woR t r)) (inC t r) (ids (woR t r))
  have e4 : cutB t r = true ↔ cutP t r := by unfold cutB; simp
  rw [Bool.eq_iff_iff, e4, e3, decide_eq_true_eq]
  unfold nC
  omega
theorem plain_TopologyWeak (t : List Int) : m_law05_TopologyWeak t = some true := by
  refine Ok.eq ?_
  unfold m_law05_TopologyWeak
  refine Ok.bnd (new_ok t) fun s hs => ?_
  refine Ok.bnd (topol_ok hs (by omega) (by omega)) fun g hg => ?_
  generalize g.1 = u
  simp only [top_Bridges, top_Cuts, ref_Bridges, ref_Cuts, bnd_s, jn, mk_same_self, ints_self, Bool.not_true, cond_false, ref_check, top_Components]
  by_cases h : chkT u = 0
  · have hv := vt_iff.1 h
    simp only [h, decide_true, Bool.not_true, cond_false, if_true]
    have cl : ∀ f, chkT (withoutT u f) = 0 := fun f => vt_iff.2 (withoutT_valid u f)
    refine Ok.forM (fun _ _ => True) ?_ _ trivial fun s _ => ?_
    · intro j l s Z hj hl _ hZ
      have e : withoutT u (GFailure.mk [GHop.mk l.A l.B] []) = woL u l := by unfold withoutT; rw [if_pos h]; rfl
      have hc := cl (GFailure.mk [GHop.mk l.A l.B] [])
      rw [e] at hc
      simp only [top_without, e, bnd_s, top_Components, hc, if_true, ref_named, compsL_len, more_link hv hl, named_bridge hv hl, beq_self_eq_true, Bool.not_true, cond_false]
      exact hZ _ trivial
    · refine Ok.forM (fun _ _ => True) ?_ _ trivial fun s _ => by rw [awake5]; exact Ok.s rfl
      intro j x s Z hj hx _ hZ
      have e : withoutT u (GFailure.mk [] [x.ID]) = woR u x.ID := by unfold withoutT; rw [if_pos h]; rfl
      have hc := cl (GFailure.mk [] [x.ID])
      rw [e] at hc
      have hr : x.ID ∈ ids u := List.mem_map.2 ⟨x, hx, rfl⟩
      have e2 : decide (x.ID ∈ cutsL u) = cutB u x.ID := by
        rw [Bool.eq_iff_iff]; simp [cutsL, hr]
      simp only [top_without, e, bnd_s, top_Components, hc, if_true, has_int, e2, compsL_len, more_router hv hr, beq_self_eq_true, Bool.not_true, cond_false]
      exact hZ _ trivial
  · simp only [h, decide_false, Bool.not_false, cond_true, awake5, bnd_s]
    exact Ok.s rfl
end Go.Proofs.Ytggbjbcgfelgiaa
