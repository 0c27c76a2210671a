/- Plain: the law DatabaseAgrees. No condition. -/
import Derived.Test.YtjckghpceekieaaP8V
import Derived.Test.YtjckghpceekieaaP8T
import Derived.Test.YtjckghpceekieaaPA8
import Derived.Test.YtjckghpceekieaaDL3
namespace Go.Proofs.Ytjckghpceekieaa
set_option linter.all false
open Go

theorem rts_lt {d : GDatabase} (h : Vd d) : (rts d).Pairwise (· < ·) := List.pairwise_map.2 h.asc
theorem link_facts {d : GDatabase} (hv : Vd d) {x y : GAdvert} {p q : GReach} (hx : x ∈ d.Adverts) (hy : y ∈ d.Adverts) (hp : p ∈ x.Links) (hq : q ∈ y.Links) : badL (mkL x p y q) = false := by
  have h1 := (va_of (hv.ok x hx)).g p hp
  have h2 := (va_of (hv.ok y hy)).g q hq
  have e : badL (mkL x p y q) = (!costB p.Cost || !costB q.Cost || decide ((if q.Capacity < p.Capacity then q.Capacity else p.Capacity) < 0) || decide (1000 < (if q.Capacity < p.Capacity then q.Capacity else p.Capacity))) := rfl
  rw [e]
  have c1 : costB p.Cost = true := by simp [costB]; omega
  have c2 : costB q.Cost = true := by simp [costB]; omega
  rw [c1, c2]
  simp only [Bool.not_true, Bool.or_self, Bool.false_or, Bool.or_eq_false_iff, decide_eq_false_iff_not]
  split <;> omega
/-- what a View of a small database is, is valid -/
theorem IsV.vt {d : GDatabase} {at1 : Int} {T : GTopology} (h : IsV d at1 T) (hv : Vd d) (hn : d.Adverts.length ≤ 7) (h6 : ∀ a ∈ d.Adverts, a.Router ≤ 6) : Vt T := by
  have hid : (T.Routers.map (·.ID)).Pairwise (· < ·) := List.pairwise_map.2 h.rasc
  have h1 : T.Routers.length ≤ 7 := by
    have := nodup_len (hid.imp (fun h => by omega) : (T.Routers.map (·.ID)).Nodup) (b := rts d) fun x hx => by
      obtain ⟨r, hr, rfl⟩ := List.mem_map.1 hx
      obtain ⟨a, ha, _, rfl⟩ := (h.rmem r).1 hr
      exact List.mem_map.2 ⟨a, ha, rfl⟩
    simp only [List.length_map] at this
    have e : (rts d).length = d.Adverts.length := by simp [rts]
    omega
  have hl : ∀ l ∈ T.Links, ∃ x ∈ d.Adverts, ∃ y ∈ d.Adverts, ∃ p ∈ x.Links, ∃ q ∈ y.Links, x.Router < y.Router ∧ l = mkL x p y q ∧ Rd d at1 x.Router ∧ Rd d at1 y.Router := fun l hl => by
    obtain ⟨x, hx, hr, y, hy, p, hp, q, hq, hlt, e1, e2, e⟩ := (h.lmem l).1 hl
    exact ⟨x, hx, y, hy, p, hp, q, hq, hlt, e, hr, .step hr ⟨x, hx, y, hy, rfl, rfl, ⟨p, hp, e1⟩, q, hq, e2⟩⟩
  have hend : ∀ x ∈ d.Adverts, Rd d at1 x.Router → hasB T x.Router = true := fun x hx hr => hasB_iff.2 ⟨_, (h.rmem _).2 ⟨x, hx, hr, rfl⟩, rfl⟩
  have hpos : ∀ x ∈ d.Adverts, 1 ≤ x.Router := fun x hx => (va_of (hv.ok x hx)).r.1
  refine ⟨by omega, ?_, fun r hr => ?_, h.rasc, fun l hll => ?_, fun l hll => ?_, fun l hll => ?_, h.lasc⟩
  · have hk : (T.Links.map fun l => l.A * 7 + l.B).Pairwise (· < ·) := by
      rw [List.pairwise_map]
      refine List.Pairwise.imp_of_mem (fun {a b} ha hb hab => ?_) h.lasc
      obtain ⟨x, hx, y, hy, p, _, q, _, _, rfl, _⟩ := hl a ha
      obtain ⟨x', hx', y', hy', p', _, q', _, _, rfl, _⟩ := hl b hb
      have g1 := h6 x hx; have g2 := h6 y hy; have g3 := h6 x' hx'; have g4 := h6 y' hy'
      have g5 := hpos x hx; have g6 := hpos y hy; have g7 := hpos x' hx'; have g8 := hpos y' hy'
      show x.Router * 7 + y.Router < x'.Router * 7 + y'.Router
      rcases ltL_iff.1 hab with q | q
      · have q : x.Router < x'.Router := q
        omega
      · have q1 : x.Router = x'.Router := q.1
        have q2 : y.Router < y'.Router := q.2
        omega
    have := nodup_len (hk.imp (fun h => by omega) : (T.Links.map fun l => l.A * 7 + l.B).Nodup) (b := (List.range 50).map Int.ofNat) fun z hz => by
      obtain ⟨l, hll, rfl⟩ := List.mem_map.1 hz
      obtain ⟨x, hx, y, hy, p, _, q, _, _, rfl, _⟩ := hl l hll
      have g1 := h6 x hx; have g2 := h6 y hy; have g5 := hpos x hx; have g6 := hpos y hy
      refine List.mem_map.2 ⟨(x.Router * 7 + y.Router).toNat, List.mem_range.2 (by omega), ?_⟩
      show Int.ofNat _ = x.Router * 7 + y.Router
      simp; omega
    simp only [List.length_map, List.length_range] at this
    omega
  · obtain ⟨a, ha, _, rfl⟩ := (h.rmem r).1 hr
    exact (va_of (hv.ok a ha)).r
  · obtain ⟨x, hx, y, hy, p, hp, q, hq, _, rfl, _⟩ := hl l hll
    exact link_facts hv hx hy hp hq
  · obtain ⟨x, hx, y, hy, p, hp, q, hq, _, rfl, r1, r2⟩ := hl l hll
    exact ⟨hend x hx r1, hend y hy r2⟩
  · obtain ⟨x, hx, y, hy, p, hp, q, hq, hlt, rfl, _⟩ := hl l hll
    exact hlt
theorem Rd.trans {d : GDatabase} {a b c : Int} (h1 : Rd d a b) (h2 : Rd d b c) : Rd d a c := by
  induction h2 with
  | refl => exact h1
  | step _ hl ih => exact .step ih hl
theorem Rd.symm {d : GDatabase} {a b : Int} (h : Rd d a b) : Rd d b a := by
  induction h with
  | refl => exact .refl
  | step _ hl ih => exact (Rd.step .refl hl.symm).trans ih
theorem IsV.adj {d : GDatabase} {at1 : Int} {T : GTopology} (h : IsV d at1 T) (hv : Vd d) {a b : Int} (hr : Rd d at1 a) (hl : LkD d a b) : adjT T a b = true := by
  obtain ⟨x, hx, y, hy, rfl, rfl, ⟨p, hp, e1⟩, q, hq, e2⟩ := id hl
  have hne : x.Router ≠ y.Router := fun e => (va_of (hv.ok x hx)).g p hp |>.2.1 (by rw [e1, e])
  rw [adj_iff]
  rcases Int.lt_or_gt_of_ne hne with hlt | hlt
  · exact ⟨mkL x p y q, (h.lmem _).2 ⟨x, hx, hr, y, hy, p, hp, q, hq, hlt, e1, e2, rfl⟩, .inl ⟨rfl, rfl⟩⟩
  · exact ⟨mkL y q x p, (h.lmem _).2 ⟨y, hy, .step hr hl, x, hx, q, hq, p, hp, hlt, e2, e1, rfl⟩, .inr ⟨rfl, rfl⟩⟩
theorem IsV.cn {d : GDatabase} {at1 : Int} {T : GTopology} (h : IsV d at1 T) (hv : Vd d) {b : Int} (hr : Rd d at1 b) : Cn T [] at1 b := by
  induction hr with
  | refl => exact .refl (by simp)
  | step h1 hl ih => exact .step ih (h.adj hv h1 hl) (by simp)
theorem IsV.move {d : GDatabase} {at1 b : Int} {T : GTopology} (h : IsV d at1 T) (hr : Rd d at1 b) : IsV d b T := by
  have e : ∀ x, Rd d at1 x ↔ Rd d b x := fun x => ⟨fun q => hr.symm.trans q, fun q => hr.trans q⟩
  exact ⟨h.rasc, fun r => by rw [h.rmem]; simp only [e], h.lasc, fun l => by rw [h.lmem]; simp only [e]⟩
theorem plain_DatabaseAgrees (t : List Int) : m_law08_DatabaseAgrees t = some true := by
  refine Ok.eq ?_
  unfold m_law08_DatabaseAgrees
  refine Ok.bnd (new_ok t) fun s hs => ?_
  refine Ok.bnd (database_ok hs (by omega)) fun dd hdd => ?_
  obtain ⟨⟨hsm, hn7, hok⟩, htd⟩ := hdd
  obtain ⟨hv, h6⟩ := hok rfl
  have hv := vd_iff.1 hv
  refine Ok.bnd (range_ok htd) fun at1 _ => ?_
  obtain ⟨T, hT1, _, hT⟩ := view_both hsm at1.1
  rw [hT1, bnd_s, ref08_find, bnd_s]
  have main : chkT T = 0 ∧ hasB T at1.1 = (findA dd.1 at1.1).2 ∧ (∀ r ∈ T.Routers, conB T at1.1 r.ID = true ∧ m_database_View dd.1 r.ID = some T) ∧
      ∀ l ∈ T.Links, ∃ x ∈ dd.1.Adverts, ∃ y ∈ dd.1.Adverts, ∃ p ∈ x.Links, ∃ q ∈ y.Links, p.Neighbour = y.Router ∧ q.Neighbour = x.Router ∧ l = mkL x p y q := by
    rcases hT with ⟨hno, rfl⟩ | ⟨⟨⟨a0, ha0, he0⟩, _⟩, T0, hV, hTe⟩
    · refine ⟨rfl, ?_, by simp [nilT], by simp [nilT]⟩
      rcases find_cases dd.1 at1.1 with ⟨a, ha, he, _⟩ | ⟨_, hf⟩
      · exact absurd ⟨⟨a, ha, he⟩, hv⟩ hno
      · rw [hf]; rfl
    · have hvt := hV.vt hv hn7 h6
      have hc := vt_iff.2 hvt
      rw [if_pos hc] at hTe
      subst hTe
      have hat : hasB T at1.1 = true := hasB_iff.2 ⟨_, (hV.rmem _).2 ⟨a0, ha0, by rw [he0]; exact .refl, rfl⟩, he0⟩
      refine ⟨hc, by rw [hat, hv.key ha0 he0], fun r hr => ?_, fun l hl => ?_⟩
      · obtain ⟨a, ha, hra, rfl⟩ := (hV.rmem r).1 hr
        refine ⟨?_, ?_⟩
        · unfold conB
          rw [hat, show hasB T a.Router = true from hasB_iff.2 ⟨_, hr, rfl⟩]
          simp [hc, hV.cn hv hra]
        · obtain ⟨U, hU1, _, hU⟩ := view_both hsm a.Router
          have : U = T := hU.unique (.inr ⟨⟨⟨a, ha, rfl⟩, hv⟩, T, hV.move hra, by rw [if_pos hc]⟩)
          rw [hU1, this]
      · obtain ⟨x, hx, _, y, hy, p, hp, q, hq, _, e1, e2, e⟩ := (hV.lmem l).1 hl
        exact ⟨x, hx, y, hy, p, hp, q, hq, e1, e2, e⟩
  obtain ⟨m1, m2, m3, m4⟩ := main
  simp only [jn, ref_check, ref_Has, bnd_s, m1, m2, decide_true, Bool.not_true, cond_false, Bool.true_and, beq_self_eq_true]
  refine Ok.forM (fun _ _ => True) (fun j r s Z _ hr _ hZ => ?_) _ trivial fun s _ => ?_
  · simp only [ref_Connected, (m3 r hr).1, (m3 r hr).2, same_self, bnd_s, Bool.not_true, cond_false]
    exact hZ _ trivial
  · refine Ok.forM (fun _ _ => True) (fun j l s Z _ hl _ hZ => ?_) _ trivial fun s _ => ?_
    · obtain ⟨x, hx, y, hy, p, hp, q, hq, e1, e2, rfl⟩ := m4 l hl
      have f1 : m_ref08_Find dd.1 (mkL x p y q).A = some (x, true) := by rw [ref08_find]; exact congrArg some (find_in hv hx)
      have f2 : m_ref08_Find dd.1 (mkL x p y q).B = some (y, true) := by rw [ref08_find]; exact congrArg some (find_in hv hy)
      have f3 : m_ref08_Reach x (mkL x p y q).B = some (p, true) := by
        rw [ref08_reach]
        rcases reach_cases x y.Router with ⟨p', hp', e, hr⟩ | ⟨hno, _⟩
        · rw [show (mkL x p y q).B = y.Router from rfl, hr, (va_of (hv.ok x hx)).uniq hp' hp (by omega)]
        · exact absurd e1 (hno p hp)
      have f4 : m_ref08_Reach y (mkL x p y q).A = some (q, true) := by
        rw [ref08_reach]
        rcases reach_cases y x.Router with ⟨q', hq', e, hr⟩ | ⟨hno, _⟩
        · rw [show (mkL x p y q).A = x.Router from rfl, hr, (va_of (hv.ok y hy)).uniq hq' hq (by omega)]
        · exact absurd e2 (hno q hq)
      simp only [f1, f2, f3, f4, bnd_s]
      simp only [mkL, decide_true, Bool.not_true, Bool.or_self, cond_false]
      exact hZ _ trivial
    · rw [awake8]; exact Ok.s rfl
end Go.Proofs.Ytjckghpceekieaa
