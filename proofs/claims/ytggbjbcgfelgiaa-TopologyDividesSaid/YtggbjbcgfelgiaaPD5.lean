/- Plain: the law TopologyDivides. No condition. -/
import Derived.Test.YtggbjbcgfelgiaaP2
import Derived.Test.YtggbjbcgfelgiaaP5
import Derived.Test.YtggbjbcgfelgiaaPA5
import Derived.Test.YtggbjbcgfelgiaaDL7
namespace Go.Proofs.Ytggbjbcgfelgiaa
set_option linter.all false
open Go

theorem comps_ids {t : GTopology} (hv : Vt t) {l : List Int} (h : l ∈ compsL t) : ∃ r, r ∈ ids t ∧ minP t r ∧ l = compL t [] r := by
  obtain ⟨r, hr, rfl⟩ := List.mem_map.1 h
  obtain ⟨h1, h2⟩ := List.mem_filter.1 hr
  exact ⟨r, h1, minB_iff.1 h2, rfl⟩
theorem comps_flat {t : GTopology} (hv : Vt t) : (compsL t).flatten.Nodup ∧ ∀ x, x ∈ (compsL t).flatten ↔ x ∈ ids t := by
  refine ⟨?_, fun x => ?_⟩
  · unfold compsL
    have hm : ∀ r ∈ (ids t).filter (minB t), r ∈ ids t ∧ minP t r := fun r hr => by
      obtain ⟨h1, h2⟩ := List.mem_filter.1 hr
      exact ⟨h1, minB_iff.1 h2⟩
    have hp : ((ids t).filter (minB t)).Pairwise (· < ·) := (ids_lt hv).sublist List.filter_sublist
    generalize (ids t).filter (minB t) = l at hm hp
    induction l with
    | nil => simp
    | cons r l ih =>
      rw [List.pairwise_cons] at hp
      rw [List.map_cons, List.flatten_cons, List.nodup_append]
      refine ⟨(compL_lt hv [] r).imp (fun h => by omega), ih (fun x hx => hm x (by simp [hx])) hp.2, ?_⟩
      intro a ha b hb hab
      subst hab
      obtain ⟨q, hq, hbq⟩ := List.mem_flatten.1 hb
      obtain ⟨r2, hr2, rfl⟩ := List.mem_map.1 hq
      have h1 := hm r (by simp)
      have h2 := hm r2 (by simp [hr2])
      have c1 := (compL_mem hv h1.1).1 ha
      have c2 := (compL_mem hv h2.1).1 hbq
      have := min_unique h1.2 h2.2 (c1.trans c2.symm)
      have := hp.1 r2 hr2; omega
  · rw [List.mem_flatten]
    constructor
    · rintro ⟨l, hl, hx⟩
      obtain ⟨r, hr, _, rfl⟩ := comps_ids hv hl
      exact ((compL_mem hv hr).1 hx).ids hv hr
    · intro hx
      obtain ⟨h, h1, h2, h3⟩ := comp_min hv hx
      exact ⟨compL t [] h, List.mem_map.2 ⟨h, List.mem_filter.2 ⟨h2, minB_iff.2 h3⟩, rfl⟩, (compL_mem hv h2).2 h1.symm⟩
theorem plain_TopologyDivides (t : List Int) : m_law05_TopologyDivides t = some true := by
  refine Ok.eq ?_
  unfold m_law05_TopologyDivides
  refine Ok.bnd (new_ok t) fun s hs => ?_
  refine Ok.bnd (topol_ok hs (by omega) (by omega)) fun g hg => ?_
  obtain ⟨⟨g1, g2, g3⟩, ht⟩ := hg
  refine Ok.bnd (failures_ok ht ⟨by omega, by omega⟩) fun f hf => ?_
  rw [ref_without, bnd_s]
  generalize hu : withoutT g.1 f.1 = u
  have hv : Vt u := hu ▸ withoutT_valid _ _
  have hc := vt_iff.2 hv
  have := hv.nr
  obtain ⟨fl1, fl2⟩ := comps_flat hv
  have hil := ids_len hv
  have hin : (ids u).Nodup := (ids_lt hv).imp (fun h => by omega)
  have hfl : (compsL u).flatten.length = (ids u).length := Nat.le_antisymm (nodup_len fl1 fun x hx => (fl2 x).1 hx) (nodup_len hin fun x hx => (fl2 x).2 hx)
  simp only [top_Components, hc, if_true, bnd_s]
  -- what the numbers and the map hold
  refine Ok.forL (fun p (s : Int × List (Int × Int)) => s.1 = p.flatten.length ∧ s.2.length = p.flatten.length ∧ (∀ x, x ∉ p.flatten → getI s.2 x = none) ∧ (∀ x ∈ p.flatten, ∃ (j : Nat) (l : List Int), p[j]? = some l ∧ x ∈ l ∧ getI s.2 x = some (j : Int))) ?_ _ ⟨rfl, rfl, fun x _ => rfl, by simp⟩ ?_
  · rintro p e rest ⟨n, m⟩ Z hL ⟨i1, i2, i3, i4⟩ hZ
    simp only at i1 i2 i3 i4
    have hnd : (p.flatten ++ e).Nodup := by
      have := fl1
      rw [hL, List.flatten_append, List.flatten_cons, ← List.append_assoc] at this
      exact (List.nodup_append.1 this).1
    have hle : p.flatten.length + e.length ≤ 24 := by
      have := hfl
      rw [hL, List.flatten_append, List.flatten_cons] at this
      simp only [List.length_append] at this; omega
    refine Ok.forL (fun q (s : Int × List (Int × Int)) => s.1 = (p.flatten ++ q).length ∧ s.2.length = (p.flatten ++ q).length ∧ (∀ x, x ∉ p.flatten ++ q → getI s.2 x = none) ∧ (∀ x ∈ p.flatten, ∃ (j : Nat) (l : List Int), p[j]? = some l ∧ x ∈ l ∧ getI s.2 x = some (j : Int)) ∧ (∀ x ∈ q, getI s.2 x = some (p.length : Int))) ?_ _ ⟨by simpa using i1, by simpa using i2, by simpa using i3, i4, by simp⟩ ?_
    · rintro q x r2 ⟨n2, m2⟩ Z2 hL2 ⟨k1, k2, k3, k4, k5⟩ hZ2
      simp only at k1 k2 k3 k4 k5
      have hx : x ∉ p.flatten ++ q := by
        have := hnd
        rw [hL2, show p.flatten ++ (q ++ x :: r2) = (p.flatten ++ q) ++ x :: r2 by simp, List.nodup_append] at this
        exact fun hm => this.2.2 x hm x (by simp) rfl
      have hle2 : (p.flatten ++ q).length ≤ 24 := by
        have : q.length ≤ e.length := by rw [hL2]; simp
        simp only [List.length_append]; omega
      refine hZ2 _ ⟨?_, ?_, ?_, ?_, ?_⟩
      · show w64 (n2 + 1) = _
        rw [w64_id (by omega) (by omega), k1]; simp only [List.length_append, List.length_cons, List.length_nil]; omega
      · show (setI m2 x _).length = _
        rw [setI_len (k3 x hx), k2]; simp only [List.length_append, List.length_cons, List.length_nil]; omega
      · intro y hy
        show getI (setI m2 x _) y = none
        rw [getI_set, if_neg (by rintro rfl; exact hy (by simp))]
        exact k3 y fun h => hy (by rw [← List.append_assoc]; exact List.mem_append_left _ h)
      · intro y hy
        obtain ⟨j, l, w1, w2, w3⟩ := k4 y hy
        refine ⟨j, l, w1, w2, ?_⟩
        show getI (setI m2 x _) y = _
        rw [getI_set, if_neg (by rintro rfl; exact hx (List.mem_append_left _ hy)), w3]
      · intro y hy
        show getI (setI m2 x _) y = _
        rw [getI_set]
        by_cases hyx : y = x
        · rw [if_pos hyx]
        · rw [if_neg hyx]
          rcases List.mem_append.1 hy with hy | hy
          · exact k5 y hy
          · simp at hy; exact absurd hy hyx
    · rintro ⟨n2, m2⟩ ⟨k1, k2, k3, k4, k5⟩
      refine hZ _ ⟨by simpa using k1, by simpa using k2, ?_, ?_⟩
      · intro x hx
        exact k3 x (by simpa [List.flatten_append] using hx)
      · intro x hx
        rw [List.flatten_append, List.mem_append] at hx
        rcases hx with hx | hx
        · obtain ⟨j, l, w1, w2, w3⟩ := k4 x hx
          have hj : j < p.length := (List.getElem?_eq_some_iff.1 w1).1
          exact ⟨j, l, by rw [List.getElem?_append_left hj, w1], w2, w3⟩
        · have hx : x ∈ e := by simpa using hx
          exact ⟨p.length, e, by simp, hx, k5 x hx⟩
  · rintro ⟨n, m⟩ ⟨i1, i2, i3, i4⟩
    simp only at i1 i2 i3 i4
    have hr : (ids u).length = u.Routers.length := by simp [ids]
    refine Ok.cs (fun h => ?_) fun _ => ?_
    · exfalso
      simp at h; omega
    have key : ∀ a ∈ u.Routers, ∀ b ∈ u.Routers, conB u a.ID b.ID = decide (((getI m a.ID).getD (0:Int)) = ((getI m b.ID).getD (0:Int))) := by
      intro a ha b hb
      have ha : a.ID ∈ ids u := List.mem_map.2 ⟨a, ha, rfl⟩
      have hb : b.ID ∈ ids u := List.mem_map.2 ⟨b, hb, rfl⟩
      obtain ⟨j, l, w1, w2, w3⟩ := i4 _ ((fl2 _).2 ha)
      obtain ⟨k, l2, v1, v2, v3⟩ := i4 _ ((fl2 _).2 hb)
      have hl := List.mem_of_getElem? w1
      have hl2 := List.mem_of_getElem? v1
      obtain ⟨r, q1, q2, rfl⟩ := comps_ids hv hl
      obtain ⟨r2, p1, p2, rfl⟩ := comps_ids hv hl2
      have ca := (compL_mem hv q1).1 w2
      have cb := (compL_mem hv p1).1 v2
      have e1 : conB u a.ID b.ID = true ↔ Cn u [] a.ID b.ID := by unfold conB; simp [hc, ids_has.1 ha, ids_has.1 hb]
      rw [Bool.eq_iff_iff, e1, decide_eq_true_eq, w3, v3]
      simp only [Option.getD_some]
      constructor
      · intro hcn
        have hrr := min_unique q2 p2 ((ca.trans hcn).trans cb.symm)
        subst hrr
        refine Classical.byContradiction fun hne => ?_
        have hjk : j ≠ k := by omega
        have hj := (List.getElem?_eq_some_iff.1 w1).1
        have hk := (List.getElem?_eq_some_iff.1 v1).1
        have hp : (compsL u).Pairwise (fun a b => ∀ x ∈ a, x ∉ b) := by
          have := (List.pairwise_flatten.1 fl1).2
          exact this.imp fun h x hx hx2 => h x hx x hx2 rfl
        have hp := List.pairwise_iff_getElem.1 hp
        have ej : (compsL u)[j] = compL u [] r := (List.getElem?_eq_some_iff.1 w1).2
        have ek : (compsL u)[k] = compL u [] r := (List.getElem?_eq_some_iff.1 v1).2
        rcases Nat.lt_or_gt_of_ne hjk with q | q
        · exact hp j k hj hk q a.ID (by rw [ej]; exact w2) (by rw [ek]; exact w2)
        · exact hp k j hk hj q a.ID (by rw [ek]; exact w2) (by rw [ej]; exact w2)
      · intro hjk
        have : j = k := by omega
        subst this
        rw [w1] at v1
        injection v1 with v1
        rw [← v1] at v2
        exact ca.symm.trans ((compL_mem hv q1).1 v2)
    refine Ok.forM (fun _ _ => True) ?_ _ trivial fun s _ => by rw [awake5]; exact Ok.s rfl
    intro j a s Z hj ha _ hZ
    refine Ok.forM (fun _ _ => True) ?_ _ trivial fun s _ => hZ _ trivial
    intro k b s2 Z2 hk hb _ hZ2
    simp only [top_Connected u _ _ (by omega : u.Routers.length ≤ 1000000), bnd_s, key a ha b hb, beq_self_eq_true, Bool.not_true, cond_false]
    exact hZ2 _ trivial
end Go.Proofs.Ytggbjbcgfelgiaa
