/- Plain: components, bridges and cuts. No condition. -/
import Derived.Test.YtggbjbcgfelgiaaP4
namespace Go.Proofs.Ytggbjbcgfelgiaa
set_option linter.all false
open Go

/-! ## connected -/
open Classical in
noncomputable def conB (t : GTopology) (a b : Int) : Bool := decide (chkT t = 0) && hasB t a && hasB t b && decide (Cn t [] a b)
theorem mem_comp {t : GTopology} (hv : Vt t) {c : List Int} {a b : Int} (ha : a ∈ ids t) : decide (b ∈ compL t c a) = @decide (Cn t c a b) (Classical.propDecidable _) := by
  rw [Bool.eq_iff_iff]; simp [compL_mem hv ha]
theorem ref_Connected (t : GTopology) (a b : Int) : m_ref05_Connected t a b = some (conB t a b) := by
  unfold m_ref05_Connected conB
  simp only [ref_Has, bnd_s]
  by_cases h : chkT t = 0
  · have hv := vt_iff.1 h
    simp only [h, decide_true, Bool.true_and]
    cases ha : hasB t a
    · rfl
    · cases hb : hasB t b
      · rfl
      · simp only [cond_true, ref_around hv (ids_has.2 ha), bnd_s, has_int, mem_comp hv (ids_has.2 ha), Bool.true_and]
  · simp [h]
theorem top_Connected (t : GTopology) (a b : Int) (hl : t.Routers.length ≤ 1000000) : m_topology_Connected t a b = some (conB t a b) := by
  unfold m_topology_Connected conB
  simp only [top_Has _ _ hl, bnd_s]
  by_cases h : chkT t = 0
  · have hv := vt_iff.1 h
    simp only [h, decide_true, Bool.true_and]
    cases ha : hasB t a
    · rfl
    · cases hb : hasB t b
      · rfl
      · simp only [cond_true, top_reached hv (ids_has.2 ha), bnd_s, con_int, mem_comp hv (ids_has.2 ha), Bool.true_and]
  · simp [h]

/-! ## components -/
def minP (t : GTopology) (r : Int) : Prop := ∀ y, Cn t [] r y → r ≤ y
open Classical in
noncomputable def minB (t : GTopology) (r : Int) : Bool := decide (minP t r)
noncomputable def compsL (t : GTopology) : List (List Int) := ((ids t).filter (minB t)).map (compL t [])
theorem self_cn {t : GTopology} {r : Int} : Cn t [] r r := .refl (by simp)
theorem comp_head {t : GTopology} (hv : Vt t) {r : Int} (hr : r ∈ ids t) : ∃ h l, compL t [] r = h :: l ∧ Cn t [] r h ∧ ∀ y, Cn t [] r y → h ≤ y := by
  have hm := (compL_mem (c := []) hv hr).2 (self_cn (r := r))
  cases hc : compL t [] r with
  | nil => rw [hc] at hm; cases hm
  | cons h l =>
    have hh : Cn t [] r h := (compL_mem hv hr).1 (by rw [hc]; simp)
    refine ⟨h, l, rfl, hh, fun y hy => ?_⟩
    have hy := (compL_mem hv hr).2 hy
    have hp := compL_lt hv [] r
    rw [hc] at hy hp
    rw [List.pairwise_cons] at hp
    rcases List.mem_cons.1 hy with rfl | hy
    · exact Int.le_refl _
    · have := hp.1 y hy; omega
theorem minB_iff {t : GTopology} {r : Int} : minB t r = true ↔ minP t r := by simp [minB]
theorem comp_min {t : GTopology} (hv : Vt t) {r : Int} (hr : r ∈ ids t) : ∃ h, Cn t [] r h ∧ h ∈ ids t ∧ minP t h := by
  obtain ⟨h, l, _, h2, h3⟩ := comp_head hv hr
  exact ⟨h, h2, h2.ids hv hr, fun y hy => h3 y (h2.trans hy)⟩
theorem min_unique {t : GTopology} {a b : Int} (ha : minP t a) (hb : minP t b) (h : Cn t [] a b) : a = b := by
  have := ha b h; have := hb a h.symm; omega
theorem ref_Components (t : GTopology) : m_ref05_Components t = some (if chkT t = 0 then compsL t else []) := by
  unfold m_ref05_Components
  simp only [ref_check, bnd_s]
  by_cases h : chkT t = 0
  · have hv := vt_iff.1 h
    have := hv.nr
    simp only [h, decide_true, Bool.not_true, cond_false, if_true]
    refine (filt_loop (fun x : GRouter => minB t x.ID) (fun x => compL t [] x.ID) _ _ _ ?_ (by simp; omega)).trans ?_
    · intro j x Z s hx hs
      have hr : x.ID ∈ ids t := List.mem_map.2 ⟨x, hx, rfl⟩
      obtain ⟨y, l, q1, q2, q3⟩ := comp_head hv hr
      have e : elO (compL t [] x.ID) 0 = some y := by rw [q1]; rfl
      simp only [jn, ref_around hv hr, bnd_s, e, app1 hs]
      have : decide (y = x.ID) = minB t x.ID := by
        rw [Bool.eq_iff_iff, minB_iff, decide_eq_true_eq]
        constructor
        · intro e z hz; have := q3 z hz; omega
        · intro hm; have := hm y q2; have := q3 _ self_cn; omega
      rw [this]
    · simp only [List.nil_append, compsL, ids]
      rw [List.filter_map, List.map_map]; rfl
  · simp [h]
theorem getI_set {α : Type} (l : List (Int × α)) (n m : Int) (b : α) : getI (setI l n b) m = if m = n then some b else getI l m := by
  induction l with
  | nil =>
    simp only [setI, getI, List.find?]
    by_cases h : n = m
    · simp [h]
    · simp [h, Ne.symm h]
  | cons p r ih =>
    simp only [setI]
    by_cases h1 : p.1 = n
    · rw [if_pos h1]
      simp only [getI, List.find?] at ih ⊢
      by_cases h2 : n = m
      · simp [h2]
      · have : p.1 ≠ m := by omega
        simp [h2, this, Ne.symm h2]
    · rw [if_neg h1]
      simp only [getI, List.find?] at ih ⊢
      by_cases h2 : p.1 = m
      · have : m ≠ n := by omega
        simp [h2, this]
      · simp [h2]; exact ih
theorem setI_len {α : Type} {l : List (Int × α)} {n : Int} {b : α} (h : getI l n = none) : (setI l n b).length = l.length + 1 := by
  induction l with
  | nil => rfl
  | cons p r ih =>
    simp only [getI, List.find?] at h
    by_cases h1 : p.1 = n
    · simp [h1] at h
    · simp only [setI, if_neg h1, List.length_cons]
      rw [ih (by simpa [getI, h1] using h)]
/-- a loop that enters the members of a list -/
theorem enter_loop {β : Type} {K : List (Int × Bool) → Option β} : ∀ (l : List Int) (j : Nat) (m : List (Int × Bool)), ∃ m2, (forI l j (fun (j2 : Int) (e2 : Int) (Z2 : (List (Int × Bool)) → Option β) (m_3 : (List (Int × Bool))) => Z2 (setI m_3 e2 true)) K m = K m2) ∧ ∀ x, ((getI m2 x).getD false = true ↔ (getI m x).getD false = true ∨ x ∈ l)
  | [], j, m => ⟨m, rfl, fun x => by simp⟩
  | y :: l, j, m => by
    obtain ⟨m2, h1, h2⟩ := enter_loop (K := K) l (j + 1) (setI m y true)
    refine ⟨m2, h1, fun x => ?_⟩
    rw [h2, getI_set]
    by_cases h : x = y <;> simp [h]
theorem top_Components (t : GTopology) : m_topology_Components t = some (if chkT t = 0 then compsL t else []) := by
  unfold m_topology_Components
  simp only [top_valid, bnd_s]
  by_cases h : chkT t = 0
  · have hv := vt_iff.1 h
    have := hv.nr
    simp only [h, decide_true, Bool.not_true, cond_false, if_true]
    refine Ok.eq (Ok.forL (fun p (s : List (List Int) × List (Int × Bool)) => s.1 = ((p.map (·.ID)).filter (minB t)).map (compL t []) ∧ ∀ x, ((getI s.2 x).getD false = true ↔ ∃ y ∈ p, Cn t [] y.ID x)) ?_ _ ⟨rfl, fun x => by simp [getI]⟩ ?_)
    · rintro p e rest ⟨out, m⟩ Z hL ⟨ho, hm⟩ hZ
      simp only at ho hm
      have hr : e.ID ∈ ids t := List.mem_map.2 ⟨e, by rw [hL]; simp, rfl⟩
      have hpr : ∀ y ∈ p, y.ID < e.ID := by
        have := hv.asc
        rw [hL, List.pairwise_append] at this
        exact fun y hy => this.2.2 y hy e (by simp)
      simp only [jn]
      cases hs : (getI m e.ID).getD false
      · rw [cond_false, top_reached hv hr, bnd_s]
        obtain ⟨m2, q1, q2⟩ := enter_loop (K := fun (m_3 : (List (Int × Bool))) => bnd (appO out ([compL t [] e.ID] : List (List Int))) fun (l_1 : List (List Int)) => Z (l_1, m_3)) (compL t [] e.ID) 0 m
        rw [q1]
        have hol : out.length < 1000000 := by
          have : p.length ≤ t.Routers.length := by rw [hL]; simp
          rw [ho, List.length_map]
          have := List.length_filter_le (minB t) (p.map (·.ID))
          simp at this; omega
        rw [app1 hol, bnd_s]
        have hmin : minB t e.ID = true := by
          rw [minB_iff]
          obtain ⟨y, l, w1, w2, w3⟩ := comp_head hv hr
          have hye := w3 _ self_cn
          intro z hz
          have := w3 z hz
          by_cases hlt : y < e.ID
          · exfalso
            have hy := w2.ids hv hr
            obtain ⟨ry, hry, rfl⟩ := List.mem_map.1 hy
            rw [hL] at hry
            rcases List.mem_append.1 hry with hry | hry
            · have := (hm e.ID).2 ⟨ry, hry, w2.symm⟩
              rw [hs] at this; cases this
            · have := hv.asc
              rw [hL, List.pairwise_append] at this
              have h2 := this.2.1
              rw [List.pairwise_cons] at h2
              rcases List.mem_cons.1 hry with rfl | hry
              · omega
              · have := h2.1 _ hry; omega
          · omega
        refine hZ _ ⟨?_, fun x => ?_⟩
        · simp only [ho, List.map_append, List.filter_append, List.map_cons, List.map_nil, List.filter_cons_of_pos hmin, List.filter_nil]
        · simp only [q2, hm, compL_mem hv hr, List.mem_append, List.mem_cons, List.not_mem_nil, or_false]
          constructor
          · rintro (⟨y, hy, hc⟩ | hc)
            · exact ⟨y, .inl hy, hc⟩
            · exact ⟨e, .inr rfl, hc⟩
          · rintro ⟨y, hy | rfl, hc⟩
            · exact .inl ⟨y, hy, hc⟩
            · exact .inr hc
      · rw [cond_true]
        obtain ⟨y, hy, hc⟩ := (hm e.ID).1 hs
        have hmin : minB t e.ID = false := by
          rw [← Bool.not_eq_true, minB_iff]
          intro hmn
          have := hmn _ hc.symm
          have := hpr y hy; omega
        refine hZ _ ⟨?_, fun x => ?_⟩
        · simp only [ho, List.map_append, List.filter_append, List.map_cons, List.map_nil, List.filter_cons_of_neg (by rw [hmin]; simp : ¬ minB t e.ID = true), List.filter_nil, List.append_nil]
        · simp only [hm, List.mem_append, List.mem_cons, List.not_mem_nil, or_false]
          constructor
          · rintro ⟨z, hz, hc2⟩; exact ⟨z, .inl hz, hc2⟩
          · rintro ⟨z, hz | rfl, hc2⟩
            · exact ⟨z, hz, hc2⟩
            · exact ⟨y, hy, hc.trans hc2⟩
    · rintro ⟨out, m⟩ ⟨ho, _⟩
      exact Ok.s ho
  · simp [h]

/-! ## bridges -/
def woL (t : GTopology) (l : GLink) : GTopology := woT t (GFailure.mk [GHop.mk l.A l.B] [])
def woR (t : GTopology) (r : Int) : GTopology := woT t (GFailure.mk [] [r])
theorem woL_ids (t : GTopology) (l : GLink) : ids (woL t l) = ids t := by
  simp only [ids, woL, woT]
  rw [List.filter_eq_self.2 (by simp)]
theorem woR_ids {t : GTopology} {r x : Int} : x ∈ ids (woR t r) ↔ x ∈ ids t ∧ x ≠ r := by
  simp only [ids, woR, woT, List.mem_map, List.mem_filter, List.mem_cons, List.not_mem_nil, or_false]
  constructor
  · rintro ⟨y, ⟨hy, hn⟩, rfl⟩; exact ⟨⟨y, hy, rfl⟩, by simpa using hn⟩
  · rintro ⟨⟨y, hy, rfl⟩, hn⟩; exact ⟨y, ⟨hy, by simpa using hn⟩, rfl⟩
open Classical in
noncomputable def brB (t : GTopology) (l : GLink) : Bool := !decide (Cn (woL t l) [] l.A l.B)
noncomputable def bridgesL (t : GTopology) : List GHop := (t.Links.filter (brB t)).map fun l => GHop.mk l.A l.B
theorem ref_Bridges (t : GTopology) : m_ref05_Bridges t = some (if chkT t = 0 then bridgesL t else []) := by
  unfold m_ref05_Bridges
  simp only [ref_check, bnd_s]
  by_cases h : chkT t = 0
  · have hv := vt_iff.1 h
    have := hv.nl
    simp only [h, decide_true, Bool.not_true, cond_false, if_true]
    refine (filt_loop (brB t) (fun l => GHop.mk l.A l.B) _ _ _ ?_ (by simp; omega)).trans ?_
    · intro j x Z s hx hs
      have e : withoutT t (GFailure.mk [GHop.mk x.A x.B] []) = woL t x := by unfold withoutT; rw [if_pos h]; rfl
      have hu : Vt (woL t x) := hv.wo _
      have he := hv.ends x hx
      simp only [jn, ref_without, e, bnd_s, ref_Connected, app1 hs]
      have : conB (woL t x) x.A x.B = @decide (Cn (woL t x) [] x.A x.B) (Classical.propDecidable _) := by
        unfold conB
        rw [vt_iff.2 hu, ids_has.1 (by rw [woL_ids]; exact ids_has.2 he.1), ids_has.1 (by rw [woL_ids]; exact ids_has.2 he.2)]; rfl
      rw [this]; rfl
    · rfl
  · simp [h]
theorem top_Bridges (t : GTopology) : m_topology_Bridges t = some (if chkT t = 0 then bridgesL t else []) := by
  unfold m_topology_Bridges
  simp only [top_valid, bnd_s]
  by_cases h : chkT t = 0
  · have hv := vt_iff.1 h
    have := hv.nl
    simp only [h, decide_true, Bool.not_true, cond_false, if_true]
    refine (filt_loop (brB t) (fun l => GHop.mk l.A l.B) _ _ _ ?_ (by simp; omega)).trans ?_
    · intro j x Z s hx hs
      have e : withoutT t (GFailure.mk [GHop.mk x.A x.B] []) = woL t x := by unfold withoutT; rw [if_pos h]; rfl
      have hu : Vt (woL t x) := hv.wo _
      have he := hv.ends x hx
      have ha : x.A ∈ ids (woL t x) := by rw [woL_ids]; exact ids_has.2 he.1
      simp only [jn, top_without, e, bnd_s, top_reached hu ha, con_int, mem_comp hu ha, app1 hs]; rfl
    · rfl
  · simp [h]

/-! ## cuts -/
def cutP (t : GTopology) (r : Int) : Prop := ∃ x y, x ∈ ids t ∧ y ∈ ids t ∧ x ≠ r ∧ y ≠ r ∧ Cn t [] x y ∧ ¬ Cn t [r] x y
open Classical in
noncomputable def cutB (t : GTopology) (r : Int) : Bool := decide (cutP t r)
noncomputable def cutsL (t : GTopology) : List Int := (ids t).filter (cutB t)
theorem woR_adj {t : GTopology} {r a b : Int} : adjT (woR t r) a b = true ↔ adjT t a b = true ∧ a ≠ r ∧ b ≠ r := by
  rw [adj_iff, adj_iff]
  simp only [woR, woT, List.mem_filter, goneB, hopB, List.any_nil, Bool.or_false, List.mem_cons, List.not_mem_nil, or_false]
  constructor
  · rintro ⟨l, ⟨hl, hg⟩, h⟩
    simp at hg
    exact ⟨⟨l, hl, h⟩, by omega, by omega⟩
  · rintro ⟨⟨l, hl, h⟩, h1, h2⟩
    refine ⟨l, ⟨hl, ?_⟩, h⟩
    simp; omega
theorem woR_cn {t : GTopology} {r a b : Int} (ha : a ≠ r) : Cn (woR t r) [] a b ↔ Cn t [r] a b := by
  constructor
  · intro h
    induction h with
    | refl _ => exact .refl (by simpa using ha)
    | step _ hd _ ih =>
      obtain ⟨h1, h2, h3⟩ := woR_adj.1 hd
      exact .step ih h1 (by simpa using h3)
  · intro h
    induction h with
    | refl _ => exact .refl (by simp)
    | step h hd hn ih => exact .step ih (woR_adj.2 ⟨hd, by simpa using h.right, by simpa using hn⟩) (by simp)
theorem cn_all {t : GTopology} {c : List Int} {a b : Int} (h : Cn t c a b) : Cn t [] a b := by
  induction h with
  | refl _ => exact self_cn
  | step _ hd _ ih => exact .step ih hd (by simp)
/-- a way goes through a router, or it does not -/
theorem cn_through {t : GTopology} {r a b : Int} (ha : a ≠ r) (h : Cn t [] a b) : Cn t [r] a b ∨ Cn t [] a r := by
  induction h with
  | refl _ => exact .inl (.refl (by simpa using ha))
  | @step e d h hd _ ih =>
    rcases ih with ih | ih
    · by_cases hdr : d = r
      · subst hdr; exact .inr (.step h hd (by simp))
      · exact .inl (.step ih hd (by simpa using hdr))
    · exact .inr ih
/-- behind a router there is a neighbour of it -/
theorem cn_back {t : GTopology} {r a : Int} (ha : a ≠ r) (h : Cn t [] a r) : ∃ n, adjT t r n = true ∧ Cn t [r] a n := by
  have key : ∀ {b}, Cn t [] a b → (∃ n, adjT t r n = true ∧ Cn t [r] a n) ∨ (b ≠ r ∧ Cn t [r] a b) := by
    intro b h
    induction h with
    | refl _ => exact .inr ⟨ha, .refl (by simpa using ha)⟩
    | @step e d h hd _ ih =>
      rcases ih with h2 | ⟨_, h2⟩
      · exact .inl h2
      · by_cases hdr : d = r
        · subst hdr; exact .inl ⟨e, adj_symm hd, h2⟩
        · exact .inr ⟨hdr, .step h2 hd (by simpa using hdr)⟩
  rcases key h with h2 | h2
  · exact h2
  · exact absurd rfl h2.1
theorem cut_symm {t : GTopology} {r x y : Int} (h : Cn t [r] x y) : Cn t [r] y x := h.symm
/-- what the program compares -/
theorem cut_iff {t : GTopology} (hv : Vt t) {r : Int} (hr : r ∈ ids t) {n : Int} (hn : adjT t r n = true) : cutP t r ↔ ((compL t [r] n).length : Int) ≠ (compL t [] r).length - 1 := by
  have hnr : n ≠ r := (adj_ne hv hn).symm
  have hni : n ∈ ids t := adj_ids hv hn
  have hnd : (compL t [] r).Nodup := (compL_lt hv _ _).imp (fun h => by omega)
  have hnd2 : (compL t [r] n).Nodup := (compL_lt hv _ _).imp (fun h => by omega)
  have hrm : r ∈ compL t [] r := (compL_mem hv hr).2 self_cn
  have hrn : Cn t [] r n := .step self_cn hn (by simp)
  have hsub : ∀ x ∈ compL t [r] n, x ∈ (compL t [] r).erase r := by
    intro x hx
    have hx := (compL_mem hv hni).1 hx
    have : x ≠ r := by simpa using hx.right
    exact (List.mem_erase_of_ne this).2 ((compL_mem hv hr).2 (hrn.trans (cn_all hx)))
  have hle := nodup_len hnd2 hsub
  rw [List.length_erase_of_mem hrm] at hle
  have hpos := List.length_pos_of_mem hrm
  constructor
  · rintro ⟨x, y, hx, hy, hxr, hyr, hc, hn2⟩ he
    have hxr2 : Cn t [] x r := (cn_through hxr hc).resolve_left hn2
    have hyr2 : Cn t [] y r := hc.symm.trans hxr2
    have full : ∀ z, z ≠ r → Cn t [] r z → Cn t [r] n z := by
      intro z hz hcz
      refine Classical.byContradiction fun hno => ?_
      have : (z :: compL t [r] n).length ≤ ((compL t [] r).erase r).length := by
        refine nodup_len ?_ ?_
        · rw [List.nodup_cons]
          exact ⟨fun hm => hno ((compL_mem hv hni).1 hm), hnd2⟩
        · intro w hw
          rcases List.mem_cons.1 hw with rfl | hw
          · exact (List.mem_erase_of_ne hz).2 ((compL_mem hv hr).2 hcz)
          · exact hsub w hw
      rw [List.length_erase_of_mem hrm, List.length_cons] at this
      omega
    exact hn2 ((full x hxr hxr2.symm).symm.trans (full y hyr hyr2.symm))
  · intro hne
    have hlt : (compL t [r] n).length < ((compL t [] r).erase r).length := by
      rw [List.length_erase_of_mem hrm]; omega
    have hex : ∃ z ∈ (compL t [] r).erase r, z ∉ compL t [r] n := by
      refine Classical.byContradiction fun hno => ?_
      have := nodup_len (hnd.erase r) (b := compL t [r] n) fun z hz => Classical.byContradiction fun h => hno ⟨z, hz, h⟩
      omega
    obtain ⟨z, hz, hzn⟩ := hex
    have hzr : z ≠ r := by
      rintro rfl
      exact (List.Nodup.not_mem_erase hnd) hz
    have hz := (compL_mem hv hr).1 ((List.mem_erase_of_ne hzr).1 hz)
    exact ⟨n, z, hni, hz.ids hv hr, hnr, hzr, hrn.symm.trans hz, fun h => hzn ((compL_mem hv hni).2 h)⟩
theorem no_cut {t : GTopology} {r : Int} (h : ∀ n, adjT t r n = false) : ¬ cutP t r := by
  rintro ⟨x, y, hx, hy, hxr, hyr, hc, hn2⟩
  have hxr2 : Cn t [] x r := (cn_through hxr hc).resolve_left hn2
  obtain ⟨n, q, _⟩ := cn_back hxr hxr2
  rw [h] at q; cases q
theorem top_Cuts (t : GTopology) : m_topology_Cuts t = some (if chkT t = 0 then cutsL t else []) := by
  unfold m_topology_Cuts
  simp only [top_valid, bnd_s]
  by_cases h : chkT t = 0
  · have hv := vt_iff.1 h
    have := hv.nr
    simp only [h, decide_true, Bool.not_true, cond_false, if_true]
    refine (filt_loop (fun x : GRouter => cutB t x.ID) (·.ID) _ _ _ ?_ (by simp; omega)).trans ?_
    · intro j x Z s hx hs
      have hr : x.ID ∈ ids t := List.mem_map.2 ⟨x, hx, rfl⟩
      simp only [jn, top_near hv, bnd_s, app1 hs]
      cases hn : nearL t x.ID with
      | nil =>
        have : cutB t x.ID = false := by
          unfold cutB
          simp only [decide_eq_false_iff_not]
          refine no_cut fun n => ?_
          rw [← Bool.not_eq_true, ← nearL_mem hv, hn]; simp
        rw [this]; rfl
      | cons n l =>
        have hadj : adjT t x.ID n = true := (nearL_mem hv).1 (by rw [hn]; simp)
        have hni := adj_ids hv hadj
        have hl := compL_len hv [] x.ID
        have e : elO (n :: l) 0 = some n := rfl
        have : decide ((0:Int) < (((n :: l) : List Int).length : Int)) = true := by simp
        simp only [this, cond_true, e, bnd_s, top_reached hv hni, top_reached hv hr]
        rw [w64_id (by omega) (by omega)]
        have : (!decide (((compL t [x.ID] n).length : Int) = (compL t [] x.ID).length - 1)) = cutB t x.ID := by
          rw [Bool.eq_iff_iff]; unfold cutB; simp [cut_iff hv hr hadj]
        rw [this]
    · simp only [List.nil_append, cutsL, ids]
      rw [List.filter_map]; rfl
  · simp [h]
theorem ref_Cuts (t : GTopology) : m_ref05_Cuts t = some (if chkT t = 0 then cutsL t else []) := by
  unfold m_ref05_Cuts
  simp only [ref_check, bnd_s]
  by_cases h : chkT t = 0
  · have hv := vt_iff.1 h
    have := hv.nr
    simp only [h, decide_true, Bool.not_true, cond_false, if_true]
    refine (filt_loop (fun x : GRouter => cutB t x.ID) (·.ID) _ _ _ ?_ (by simp; omega)).trans ?_
    · intro j x Z s hx hs
      have hr : x.ID ∈ ids t := List.mem_map.2 ⟨x, hx, rfl⟩
      have e : withoutT t (GFailure.mk [] [x.ID]) = woR t x.ID := by unfold withoutT; rw [if_pos h]; rfl
      have hu : Vt (woR t x.ID) := hv.wo _
      have hul := hu.nr
      simp only [jn, ref_without, e, bnd_s, app1 hs, ref_Connected]
      generalize hW : woR t x.ID = u at *
      -- which pairs count
      have hpair : ∀ a b, a ∈ u.Routers → b ∈ u.Routers → ((conB t a.ID b.ID = true ∧ conB u a.ID b.ID = false) ↔ (Cn t [] a.ID b.ID ∧ ¬ Cn t [x.ID] a.ID b.ID)) := by
        intro a b ha hb
        have ha : a.ID ∈ ids u := List.mem_map.2 ⟨a, ha, rfl⟩
        have hb : b.ID ∈ ids u := List.mem_map.2 ⟨b, hb, rfl⟩
        have ha2 := ha
        have hb2 := hb
        rw [← hW, woR_ids] at ha2 hb2
        have e1 : conB t a.ID b.ID = true ↔ Cn t [] a.ID b.ID := by
          unfold conB; simp [h, ids_has.1 ha2.1, ids_has.1 hb2.1]
        have e2 : conB u a.ID b.ID = true ↔ Cn t [x.ID] a.ID b.ID := by
          rw [← woR_cn ha2.2, hW]
          unfold conB; simp [vt_iff.2 hu, ids_has.1 ha, ids_has.1 hb]
        rw [← Bool.not_eq_true, e1, e2]
      have bad : ∀ a ∈ u.Routers, ∀ b ∈ u.Routers, Cn t [] a.ID b.ID ∧ ¬ Cn t [x.ID] a.ID b.ID → cutP t x.ID := by
        intro a ha b hb hq
        have ha : a.ID ∈ ids u := List.mem_map.2 ⟨a, ha, rfl⟩
        have hb : b.ID ∈ ids u := List.mem_map.2 ⟨b, hb, rfl⟩
        rw [← hW, woR_ids] at ha hb
        exact ⟨a.ID, b.ID, ha.1, hb.1, ha.2, hb.2, hq.1, hq.2⟩
      refine gforL (G := fun o => o = bif cutB t x.ID then Z (s ++ [x.ID]) else Z s) (fun p (cut : Bool) => (cut = true → cutP t x.ID) ∧ (cut = false → p.Pairwise fun b a => ¬ (Cn t [] a.ID b.ID ∧ ¬ Cn t [x.ID] a.ID b.ID))) ?_ _ ⟨by simp, by simp⟩ ?_
      · rintro p e rest cut Z2 hL ⟨c1, c2⟩ hZ2
        have hpl : p.length ≤ u.Routers.length := by rw [hL]; simp
        rw [chk_t (by simp; omega)]
        have hem : e ∈ u.Routers := by rw [hL]; simp
        refine gforN (G := fun o => o = bif cutB t x.ID then Z (s ++ [x.ID]) else Z s) (fun i (cut : Bool) => (cut = true → cutP t x.ID) ∧ (cut = false → (p.Pairwise fun b a => ¬ (Cn t [] a.ID b.ID ∧ ¬ Cn t [x.ID] a.ID b.ID)) ∧ ∀ b ∈ p.take i.toNat, ¬ (Cn t [] e.ID b.ID ∧ ¬ Cn t [x.ID] e.ID b.ID))) 0 p.length ?_ ?_ _ _ _ rfl (by omega) (by omega) ⟨c1, fun hc => ⟨c2 hc, by simp⟩⟩
        · rintro i cut Z3 hi0 hi1 ⟨d1, d2⟩ hZ3
          have hi : i.toNat < p.length := by omega
          have hel : elO u.Routers i = some p[i.toNat] := by
            unfold elO; rw [if_pos hi0, hL, List.getElem?_append_left hi, List.getElem?_eq_getElem hi]
          have hbm : p[i.toNat] ∈ u.Routers := by rw [hL]; exact List.mem_append_left _ (List.getElem_mem hi)
          rw [hel, bnd_s]
          have hp := hpair e p[i.toNat] hem hbm
          have htake : ∀ b ∈ p.take (i + 1).toNat, b ∈ p.take i.toNat ∨ b = p[i.toNat] := by
            intro b hb
            rw [show (i + 1).toNat = i.toNat + 1 by omega, List.take_succ_eq_append_getElem hi, List.mem_append, List.mem_cons] at hb
            rcases hb with hb | hb | hb
            · exact .inl hb
            · exact .inr hb
            · cases hb
          cases cut
          · have hd := d2 rfl
            simp only [cond_false]
            cases h1 : conB t e.ID p[i.toNat].ID
            · refine hZ3 _ ⟨by simp, fun _ => ⟨hd.1, fun b hb => ?_⟩⟩
              rcases htake b hb with hb | rfl
              · exact hd.2 b hb
              · rw [← hp, h1]; simp
            · simp only [cond_true]
              refine hZ3 _ ⟨fun hh => bad e hem _ hbm (hp.1 ⟨h1, by simpa using hh⟩), fun hh => ⟨hd.1, fun b hb => ?_⟩⟩
              rcases htake b hb with hb | rfl
              · exact hd.2 b hb
              · rw [← hp]; rintro ⟨_, hh2⟩; rw [hh2] at hh; cases hh
          · exact hZ3 _ ⟨fun _ => d1 rfl, by simp⟩
        · rintro i cut hi0 hi1 ⟨d1, d2⟩
          have hi1 := hi1 (by omega)
          refine hZ2 _ ⟨d1, fun hc => ?_⟩
          obtain ⟨w1, w2⟩ := d2 hc
          rw [List.take_of_length_le (by omega)] at w2
          rw [List.pairwise_append]
          exact ⟨w1, by simp, fun b hb a ha => by simp at ha; subst ha; exact w2 b hb⟩
      · rintro cut ⟨c1, c2⟩
        have : cutB t x.ID = cut := by
          have e3 : cutB t x.ID = true ↔ cutP t x.ID := by unfold cutB; simp
          rw [Bool.eq_iff_iff, e3]
          refine ⟨fun hcut => ?_, c1⟩
          refine Classical.byContradiction fun hno => ?_
          have hp := c2 (by simpa using hno)
          obtain ⟨a, b, ha, hb, har, hbr, q1, q2⟩ := hcut
          have ha2 : a ∈ ids u := by rw [← hW, woR_ids]; exact ⟨ha, har⟩
          have hb2 : b ∈ ids u := by rw [← hW, woR_ids]; exact ⟨hb, hbr⟩
          obtain ⟨ra, hra, rfl⟩ := List.mem_map.1 ha2
          obtain ⟨rb, hrb, rfl⟩ := List.mem_map.1 hb2
          obtain ⟨i, hi, rfl⟩ := List.getElem_of_mem hra
          obtain ⟨j, hj, rfl⟩ := List.getElem_of_mem hrb
          have hp := List.pairwise_iff_getElem.1 hp
          rcases Nat.lt_trichotomy i j with q | q | q
          · exact hp i j hi hj q ⟨q1.symm, fun h => q2 h.symm⟩
          · subst q; exact q2 (.refl (by simpa using har))
          · exact hp j i hj hi q ⟨q1, q2⟩
        rw [this]
    · simp only [List.nil_append, cutsL, ids]
      rw [List.filter_map]; rfl
  · simp [h]
end Go.Proofs.Ytggbjbcgfelgiaa
