/- Plain: the law of the triangles. No condition. -/
import Derived.Test.YtflifgcoleknlaaPN
import Derived.Test.YtflifgcoleknlaaDL4
namespace Go.Proofs.Ytflifgcoleknlaa
set_option linter.all false
open Go
theorem any_ids {g : GTopology} (hl : g.Routers.length ≤ 1000000) : m_mk_Any g = some (ids g) := by
 unfold m_mk_Any
 refine (fmap_loop (fun r : GRouter => some r.ID) g.Routers 0 [] (fun j x Z s _ hs => by rw [app1 hs]; rfl) (by simpa using hl)).trans ?_
 rw [List.nil_append, List.filterMap_eq_map']; rfl
theorem plain_ShortestTriangles (t : List Int) : m_law06_ShortestTriangles t = some true := by
 unfold m_law06_ShortestTriangles
 refine Ok.eq (Ok.bnd (new_ok t) fun s hs => Ok.bnd (topol_valid hs (by decide)) fun p hp => ?_)
 obtain ⟨⟨hv, hn, _⟩, _⟩ := hp
 have hl : p.1.Routers.length ≤ 1000000 := by omega
 rw [any_ids hl, bnd_s]
 have hnd : (ids p.1).Nodup := (ids_lt hv).imp fun h => Int.ne_of_lt h
 refine Ok.forL (L := ids p.1) (fun _ _ => True) (fun q1 a r1 u Z hL1 _ hZ => ?_) () trivial fun _ _ => by rw [awake6]; exact .s rfl
 refine Ok.forL (L := ids p.1) (fun _ _ => True) (fun q2 b r2 u2 Z2 hL2 _ hZ2 => ?_) () trivial fun _ _ => hZ () trivial
 have ha : a ∈ ids p.1 := by rw [hL1]; simp
 have hb : b ∈ ids p.1 := by rw [hL2]; simp
 have hij : ((q1.length : Int) = (q2.length : Int)) ↔ a = b := by
  have e1 : (ids p.1)[q1.length]? = some a := by rw [hL1]; simp
  have e2 : (ids p.1)[q2.length]? = some b := by rw [hL2]; simp
  constructor
  ·intro h
   have : q1.length = q2.length := by omega
   rw [this, e2] at e1; exact (Option.some.inj e1).symm
  ·intro h
   subst h
   obtain ⟨l1, g1⟩ := List.getElem?_eq_some_iff.1 e1
   obtain ⟨l2, g2⟩ := List.getElem?_eq_some_iff.1 e2
   have pw := List.pairwise_iff_getElem.1 hnd
   rcases Nat.lt_trichotomy q1.length q2.length with q | q | q
   ·exact absurd (g1.trans g2.symm) (pw _ _ l1 l2 q)
   ·omega
   ·exact absurd (g2.trans g1.symm) (pw _ _ l2 l1 q)
 rw [top_Cost6, bnd_s]
 refine Ok.jn (fun v => v = false) (fun v hvv => ?_) fun J hJ => ?_
 ·subst hvv
  rw [cond_false, ref_price, bnd_s, price_adj]
  refine Ok.cs (fun hc => ?_) fun _ => ?_
  ·exfalso
   simp only [Bool.and_eq_true, decide_eq_true_eq] at hc
   obtain ⟨k, hk, hle⟩ := dT_edge hv (lkC_some.2 ⟨hc.1, rfl⟩)
   have := hc.2
   rw [costT_some hk] at this
   simp only at this
   omega
  ·refine Ok.forI (fun _ _ => True) (fun j c u3 Z3 _ hZ3 => ?_) _ 0 () trivial fun _ _ => hZ2 () trivial
   rw [top_Cost6, bnd_s, top_Cost6, bnd_s]
   refine Ok.cs (fun hc => ?_) fun _ => hZ3 () trivial
   exfalso
   simp only [Bool.and_eq_true, Bool.or_eq_true, Bool.not_eq_true', decide_eq_true_eq] at hc
   obtain ⟨h1, h2, h3⟩ := hc
   obtain ⟨i, hi⟩ := Option.isSome_iff_exists.1 (show (dT p.1 a c).isSome = true from h1)
   obtain ⟨j, hj⟩ := Option.isSome_iff_exists.1 (show (dT p.1 c b).isSome = true from h2)
   obtain ⟨k, hk, hle⟩ := dT_tri hi hj
   have e1 := dT_small hi
   have e2 := dT_small hj
   rw [costT_some hi, costT_some hj, costT_some hk] at h3
   simp only [Bool.true_eq_false, false_or] at h3
   rw [w64_sm (by omega) (by omega)] at h3
   omega
 ·rw [ref_Connected, bnd_s, conB_eq hv ha hb]
  by_cases hab : a = b
  ·have hd : dT p.1 a b = some 0 := by rw [← hab]; exact dT_self hv ha
   rw [costT_some hd, hd, decide_eq_true (hij.2 hab)]
   exact hJ false rfl
  ·rw [decide_eq_false fun h => hab (hij.1 h)]
   cases hd : dT p.1 a b with
   | none => rw [costT_none hd]; exact hJ false rfl
   | some k =>
    rw [costT_some hd]
    have := dst_pos (lkC_pos hv) (dT_ids hd).2.2.2 hab
    exact hJ (decide (k < 1)) (decide_eq_false (by omega))
end Go.Proofs.Ytflifgcoleknlaa
