/- Plain: components, bridges and cuts. No condition. -/
import Derived.Test.YtjckghpceekieaaP4
namespace Go.Proofs.Ytjckghpceekieaa
set_option linter.all false
open Go

/-! ## connected -/
open Classical in
noncomputable def conB (t : GTopology) (a b : Int) : Bool := decide (chkT t = 0) && hasB t a && hasB t b && decide (Cn t [] a b)
theorem mem_comp {t : GTopology} (hv : Vt t) {c : List Int} {a b : Int} (ha : a ∈ ids t) : decide (b ∈ compL t c a) = @decide (Cn t c a b) (Classical.propDecidable _) := by
  rw [Bool.eq_iff_iff]; simp [compL_mem hv ha]
theorem ref_Connected (t : GTopology) (a b : Int) : m_ref05_Connected t a b = some (conB t a b) := by
  unfold m_ref05_Connected conB
  simp only [ref_Has, bnd_s]
  by_cases h : chkT t = 0
  · have hv := vt_iff.1 h
    simp only [h, decide_true, Bool.true_and]
    cases ha : hasB t a
    · rfl
    · cases hb : hasB t b
      · rfl
      · simp only [cond_true, ref_around hv (ids_has.2 ha), bnd_s, has_int, mem_comp hv (ids_has.2 ha), Bool.true_and]
  · simp [h]
/-! ## components -/
def minP (t : GTopology) (r : Int) : Prop := ∀ y, Cn t [] r y → r ≤ y
open Classical in
noncomputable def minB (t : GTopology) (r : Int) : Bool := decide (minP t r)
noncomputable def compsL (t : GTopology) : List (List Int) := ((ids t).filter (minB t)).map (compL t [])
theorem self_cn {t : GTopology} {r : Int} : Cn t [] r r := .refl (by simp)
theorem comp_head {t : GTopology} (hv : Vt t) {r : Int} (hr : r ∈ ids t) : ∃ h l, compL t [] r = h :: l ∧ Cn t [] r h ∧ ∀ y, Cn t [] r y → h ≤ y := by
  have hm := (compL_mem (c := []) hv hr).2 (self_cn (r := r))
  cases hc : compL t [] r with
  | nil => rw [hc] at hm; cases hm
  | cons h l =>
    have hh : Cn t [] r h := (compL_mem hv hr).1 (by rw [hc]; simp)
    refine ⟨h, l, rfl, hh, fun y hy => ?_⟩
    have hy := (compL_mem hv hr).2 hy
    have hp := compL_lt hv [] r
    rw [hc] at hy hp
    rw [List.pairwise_cons] at hp
    rcases List.mem_cons.1 hy with rfl | hy
    · exact Int.le_refl _
    · have := hp.1 y hy; omega
theorem minB_iff {t : GTopology} {r : Int} : minB t r = true ↔ minP t r := by simp [minB]
theorem comp_min {t : GTopology} (hv : Vt t) {r : Int} (hr : r ∈ ids t) : ∃ h, Cn t [] r h ∧ h ∈ ids t ∧ minP t h := by
  obtain ⟨h, l, _, h2, h3⟩ := comp_head hv hr
  exact ⟨h, h2, h2.ids hv hr, fun y hy => h3 y (h2.trans hy)⟩
theorem min_unique {t : GTopology} {a b : Int} (ha : minP t a) (hb : minP t b) (h : Cn t [] a b) : a = b := by
  have := ha b h; have := hb a h.symm; omega
theorem getI_set {α : Type} (l : List (Int × α)) (n m : Int) (b : α) : getI (setI l n b) m = if m = n then some b else getI l m := by
  induction l with
  | nil =>
    simp only [setI, getI, List.find?]
    by_cases h : n = m
    · simp [h]
    · simp [h, Ne.symm h]
  | cons p r ih =>
    simp only [setI]
    by_cases h1 : p.1 = n
    · rw [if_pos h1]
      simp only [getI, List.find?] at ih ⊢
      by_cases h2 : n = m
      · simp [h2]
      · have : p.1 ≠ m := by omega
        simp [h2, this, Ne.symm h2]
    · rw [if_neg h1]
      simp only [getI, List.find?] at ih ⊢
      by_cases h2 : p.1 = m
      · have : m ≠ n := by omega
        simp [h2, this]
      · simp [h2]; exact ih
theorem setI_len {α : Type} {l : List (Int × α)} {n : Int} {b : α} (h : getI l n = none) : (setI l n b).length = l.length + 1 := by
  induction l with
  | nil => rfl
  | cons p r ih =>
    simp only [getI, List.find?] at h
    by_cases h1 : p.1 = n
    · simp [h1] at h
    · simp only [setI, if_neg h1, List.length_cons]
      rw [ih (by simpa [getI, h1] using h)]
/-- a loop that enters the members of a list -/
theorem enter_loop {β : Type} {K : List (Int × Bool) → Option β} : ∀ (l : List Int) (j : Nat) (m : List (Int × Bool)), ∃ m2, (forI l j (fun (j2 : Int) (e2 : Int) (Z2 : (List (Int × Bool)) → Option β) (m_3 : (List (Int × Bool))) => Z2 (setI m_3 e2 true)) K m = K m2) ∧ ∀ x, ((getI m2 x).getD false = true ↔ (getI m x).getD false = true ∨ x ∈ l)
  | [], j, m => ⟨m, rfl, fun x => by simp⟩
  | y :: l, j, m => by
    obtain ⟨m2, h1, h2⟩ := enter_loop (K := K) l (j + 1) (setI m y true)
    refine ⟨m2, h1, fun x => ?_⟩
    rw [h2, getI_set]
    by_cases h : x = y <;> simp [h]
/-! ## bridges -/
/-! ## cuts -/
def cutP (t : GTopology) (r : Int) : Prop := ∃ x y, x ∈ ids t ∧ y ∈ ids t ∧ x ≠ r ∧ y ≠ r ∧ Cn t [] x y ∧ ¬ Cn t [r] x y
open Classical in
noncomputable def cutB (t : GTopology) (r : Int) : Bool := decide (cutP t r)
noncomputable def cutsL (t : GTopology) : List Int := (ids t).filter (cutB t)
theorem cn_all {t : GTopology} {c : List Int} {a b : Int} (h : Cn t c a b) : Cn t [] a b := by
  induction h with
  | refl _ => exact self_cn
  | step _ hd _ ih => exact .step ih hd (by simp)
/-- a way goes through a router, or it does not -/
theorem cn_through {t : GTopology} {r a b : Int} (ha : a ≠ r) (h : Cn t [] a b) : Cn t [r] a b ∨ Cn t [] a r := by
  induction h with
  | refl _ => exact .inl (.refl (by simpa using ha))
  | @step e d h hd _ ih =>
    rcases ih with ih | ih
    · by_cases hdr : d = r
      · subst hdr; exact .inr (.step h hd (by simp))
      · exact .inl (.step ih hd (by simpa using hdr))
    · exact .inr ih
/-- behind a router there is a neighbour of it -/
theorem cn_back {t : GTopology} {r a : Int} (ha : a ≠ r) (h : Cn t [] a r) : ∃ n, adjT t r n = true ∧ Cn t [r] a n := by
  have key : ∀ {b}, Cn t [] a b → (∃ n, adjT t r n = true ∧ Cn t [r] a n) ∨ (b ≠ r ∧ Cn t [r] a b) := by
    intro b h
    induction h with
    | refl _ => exact .inr ⟨ha, .refl (by simpa using ha)⟩
    | @step e d h hd _ ih =>
      rcases ih with h2 | ⟨_, h2⟩
      · exact .inl h2
      · by_cases hdr : d = r
        · subst hdr; exact .inl ⟨e, adj_symm hd, h2⟩
        · exact .inr ⟨hdr, .step h2 hd (by simpa using hdr)⟩
  rcases key h with h2 | h2
  · exact h2
  · exact absurd rfl h2.1
theorem cut_symm {t : GTopology} {r x y : Int} (h : Cn t [r] x y) : Cn t [r] y x := h.symm
/-- what the program compares -/
theorem cut_iff {t : GTopology} (hv : Vt t) {r : Int} (hr : r ∈ ids t) {n : Int} (hn : adjT t r n = true) : cutP t r ↔ ((compL t [r] n).length : Int) ≠ (compL t [] r).length - 1 := by
  have hnr : n ≠ r := (adj_ne hv hn).symm
  have hni : n ∈ ids t := adj_ids hv hn
  have hnd : (compL t [] r).Nodup := (compL_lt hv _ _).imp (fun h => by omega)
  have hnd2 : (compL t [r] n).Nodup := (compL_lt hv _ _).imp (fun h => by omega)
  have hrm : r ∈ compL t [] r := (compL_mem hv hr).2 self_cn
  have hrn : Cn t [] r n := .step self_cn hn (by simp)
  have hsub : ∀ x ∈ compL t [r] n, x ∈ (compL t [] r).erase r := by
    intro x hx
    have hx := (compL_mem hv hni).1 hx
    have : x ≠ r := by simpa using hx.right
    exact (List.mem_erase_of_ne this).2 ((compL_mem hv hr).2 (hrn.trans (cn_all hx)))
  have hle := nodup_len hnd2 hsub
  rw [List.length_erase_of_mem hrm] at hle
  have hpos := List.length_pos_of_mem hrm
  constructor
  · rintro ⟨x, y, hx, hy, hxr, hyr, hc, hn2⟩ he
    have hxr2 : Cn t [] x r := (cn_through hxr hc).resolve_left hn2
    have hyr2 : Cn t [] y r := hc.symm.trans hxr2
    have full : ∀ z, z ≠ r → Cn t [] r z → Cn t [r] n z := by
      intro z hz hcz
      refine Classical.byContradiction fun hno => ?_
      have : (z :: compL t [r] n).length ≤ ((compL t [] r).erase r).length := by
        refine nodup_len ?_ ?_
        · rw [List.nodup_cons]
          exact ⟨fun hm => hno ((compL_mem hv hni).1 hm), hnd2⟩
        · intro w hw
          rcases List.mem_cons.1 hw with rfl | hw
          · exact (List.mem_erase_of_ne hz).2 ((compL_mem hv hr).2 hcz)
          · exact hsub w hw
      rw [List.length_erase_of_mem hrm, List.length_cons] at this
      omega
    exact hn2 ((full x hxr hxr2.symm).symm.trans (full y hyr hyr2.symm))
  · intro hne
    have hlt : (compL t [r] n).length < ((compL t [] r).erase r).length := by
      rw [List.length_erase_of_mem hrm]; omega
    have hex : ∃ z ∈ (compL t [] r).erase r, z ∉ compL t [r] n := by
      refine Classical.byContradiction fun hno => ?_
      have := nodup_len (hnd.erase r) (b := compL t [r] n) fun z hz => Classical.byContradiction fun h => hno ⟨z, hz, h⟩
      omega
    obtain ⟨z, hz, hzn⟩ := hex
    have hzr : z ≠ r := by
      rintro rfl
      exact (List.Nodup.not_mem_erase hnd) hz
    have hz := (compL_mem hv hr).1 ((List.mem_erase_of_ne hzr).1 hz)
    exact ⟨n, z, hni, hz.ids hv hr, hnr, hzr, hrn.symm.trans hz, fun h => hzn ((compL_mem hv hni).2 h)⟩
theorem no_cut {t : GTopology} {r : Int} (h : ∀ n, adjT t r n = false) : ¬ cutP t r := by
  rintro ⟨x, y, hx, hy, hxr, hyr, hc, hn2⟩
  have hxr2 : Cn t [] x r := (cn_through hxr hc).resolve_left hn2
  obtain ⟨n, q, _⟩ := cn_back hxr hxr2
  rw [h] at q; cases q
end Go.Proofs.Ytjckghpceekieaa
