/- Plain: the law DatabaseViews. No condition. -/
import Derived.Test.YtjckghpceekieaaP8V
import Derived.Test.YtjckghpceekieaaP8T
import Derived.Test.YtjckghpceekieaaPC8
import Derived.Test.YtjckghpceekieaaDL4
namespace Go.Proofs.Ytjckghpceekieaa
set_option linter.all false
open Go

theorem eqGOwned_self (a : GOwned) : eqGOwned a a = true := by simp [eqGOwned]
theorem ViewP.owner {d : GDatabase} {at1 : Int} {T : GTopology} (h : ViewP d at1 T) {r : GRouter} (hr : r ∈ T.Routers) : Vd d ∧ ∃ a ∈ d.Adverts, r = GRouter.mk a.Router a.Capable := by
  rcases h with ⟨_, rfl⟩ | ⟨⟨_, hv⟩, T0, hV, rfl⟩
  · simp [nilT] at hr
  · split at hr
    · obtain ⟨a, ha, _, e⟩ := (hV.rmem r).1 hr
      exact ⟨hv, a, ha, e⟩
    · simp [nilT] at hr
theorem ViewP.len {d : GDatabase} {at1 : Int} {T : GTopology} (h : ViewP d at1 T) : T.Routers.length ≤ 24 ∧ T.Links.length ≤ 60 := by
  rcases h with ⟨_, rfl⟩ | ⟨_, T0, _, rfl⟩
  · simp [nilT]
  · split
    · rename_i h; have := vt_iff.1 h; exact ⟨this.nr, this.nl⟩
    · simp [nilT]
/-- the claims of a list of routers -/
def claimsO (d : GDatabase) (r : GRouter) : List GOwned := bif r.Capable then (findA d r.ID).1.Claims.map (GOwned.mk r.ID) else []
theorem map_loop {α γ β : Type} (f : α → γ) {K : List γ → Option β} : ∀ (l : List α) (j : Nat) (s : List γ), s.length + l.length ≤ 1000000 → forI l j (fun (_ : Int) (e : α) (Z : List γ → Option β) (o : List γ) => bnd (appO o ([f e] : List γ)) fun l => Z l) K s = K (s ++ l.map f)
  | [], _, s, _ => by simp [forI]
  | x :: r, j, s, h => by
    simp only [forI]
    simp only [List.length_cons] at h
    rw [appO_ok (by simp; omega), bnd_s, map_loop f r (j + 1) _ (by simp; omega)]
    simp
theorem claims_both {d : GDatabase} (hd : SmD d) (at1 : Int) : ∃ l, m_database_Claims d at1 = some l ∧ m_ref08_Claims d at1 = some l := by
  obtain ⟨T, h1, h2, hT⟩ := view_both hd at1
  refine ⟨T.Routers.flatMap (claimsO d), ?_, ?_⟩
  · refine Ok.eq ?_
    unfold m_database_Claims
    rw [h1, bnd_s]
    have hlen := hT.len.1
    refine Ok.forL (fun P (o : List GOwned) => o = P.flatMap (claimsO d) ∧ o.length ≤ 8 * P.length) ?_ _ ⟨rfl, by simp⟩ (fun o ho => Ok.s ho.1)
    rintro P r rest o Z hL ⟨ho, hol⟩ hZ
    obtain ⟨hv, a, ha, hr⟩ := hT.owner (r := r) (by rw [hL]; simp)
    have hva := va_of (hv.ok a ha)
    have hPl : P.length < T.Routers.length := by rw [hL]; simp
    simp only [jn]
    rw [db_find hd, bnd_s]
    have hf : findA d r.ID = (a, true) := hv.key ha (by rw [hr])
    have hc8 := hva.nc
    refine Ok.cs (fun hc => ?_) fun hc => ?_
    · have hc : r.Capable = false := by simpa using hc
      exact hZ _ ⟨by rw [List.flatMap_append, ho]; simp [claimsO, hc], by simp; omega⟩
    · have hc : r.Capable = true := by simpa using hc
      rw [hf]
      rw [map_loop (fun c => GOwned.mk r.ID c) a.Claims 0 o (by omega)]
      exact hZ _ ⟨by rw [List.flatMap_append, ho]; simp [claimsO, hc, hf], by simp; omega⟩
  · refine Ok.eq ?_
    unfold m_ref08_Claims
    rw [h2, bnd_s]
    have hlen := hT.len.1
    refine Ok.forL (fun P (o : List GOwned) => o = P.flatMap (claimsO d) ∧ o.length ≤ 8 * P.length) ?_ _ ⟨rfl, by simp⟩ (fun o ho => Ok.s ho.1)
    rintro P r rest o Z hL ⟨ho, hol⟩ hZ
    obtain ⟨hv, a, ha, hr⟩ := hT.owner (r := r) (by rw [hL]; simp)
    have hva := va_of (hv.ok a ha)
    have hPl : P.length < T.Routers.length := by rw [hL]; simp
    rw [ref08_find, bnd_s]
    have hf : findA d r.ID = (a, true) := hv.key ha (by rw [hr])
    have hc8 := hva.nc
    have er : a.Router = r.ID := by rw [hr]
    have ec : a.Capable = r.Capable := by rw [hr]
    rw [hf]
    refine Ok.whl (fun s : List GOwned × Int => (0 ≤ s.2 ∧ s.2 ≤ a.Claims.length) ∧ (a.Capable = false → s.2 = 0) ∧ s.1 = o ++ (a.Claims.take s.2.toNat).map (GOwned.mk r.ID)) (fun s => ((a.Claims.length : Int) - s.2).toNat) ⟨by simp, by simp, by simp⟩ (by simp only; omega) ?_
    rintro ⟨o2, k⟩ Z2 ⟨⟨hk0, hk1⟩, hk2, ho2⟩ hZ2
    simp only at hk0 hk1 hk2 ho2
    refine Ok.cs (fun hc => ?_) fun hc => ?_
    · simp only [Bool.and_eq_true, decide_eq_true_eq] at hc
      have hkn : k.toNat < a.Claims.length := by omega
      have hg : elO a.Claims k = some a.Claims[k.toNat] := by unfold elO; rw [if_pos hk0, List.getElem?_eq_getElem hkn]
      have hol2 : o2.length ≤ o.length + 8 := by rw [ho2]; simp; omega
      simp only [hg, bnd_s]
      rw [appO_ok (by simp; omega), bnd_s, w64_id (by omega) (by omega)]
      refine hZ2 _ ⟨⟨by simp only; omega, by simp only; omega⟩, (fun h => absurd hc.2 (by rw [h]; simp)), ?_⟩ (by simp only; omega)
      simp only
      rw [show (k + 1).toNat = k.toNat + 1 by omega, List.take_succ_eq_append_getElem hkn, ho2, List.map_append, ← List.append_assoc]
      simp only [List.map_cons, List.map_nil, er]
    · refine hZ _ ?_
      simp only [Bool.and_eq_false_iff, decide_eq_false_iff_not] at hc
      cases hcap : r.Capable with
      | true =>
        rw [ec, hcap] at hc
        have hke : (a.Claims.length : Int) ≤ k := by simp at hc; omega
        rw [List.take_of_length_le (by omega)] at ho2
        have e9 : claimsO d r = a.Claims.map (GOwned.mk r.ID) := by simp [claimsO, hcap, hf]
        exact ⟨by rw [List.flatMap_append, ho2, ho]; simp [e9], by rw [ho2]; simp; omega⟩
      | false =>
        rw [hk2 (by rw [ec, hcap])] at ho2
        have e9 : claimsO d r = [] := by simp [claimsO, hcap]
        exact ⟨by rw [List.flatMap_append, ho2, ho]; simp [e9], by rw [ho2]; simp; omega⟩
theorem plain_DatabaseViews (t : List Int) (raw : GDatabase) (r : Int) : m_law08_DatabaseViews t raw r = some true := by
  refine Ok.eq ?_
  unfold m_law08_DatabaseViews
  refine Ok.bnd (new_ok t) fun s hs => ?_
  refine Ok.bnd (database_ok hs (by omega)) fun a ha => ?_
  refine Ok.bnd (database_ok ha.2 (by omega)) fun b hb => ?_
  obtain ⟨bg, hbg, hsm⟩ := big_sm raw
  refine Ok.whl (fun s : Int × List Int × Int => (0 ≤ s.1 ∧ s.1 ≤ 3) ∧ TapeOk (GTape.mk s.2.1 s.2.2)) (fun s => (3 - s.1).toNat) ⟨by simp, hb.2⟩ (by simp) ?_
  rintro ⟨i, L, At⟩ Z ⟨hi, ht⟩ hZ
  refine Ok.jn (fun v : Bool => v = true → i < 3 ∧ bg = false) (fun v hv => ?_) fun J1 hJ1 => ?_
  · refine Ok.cs (fun h => ?_) fun _ => ?_
    · obtain ⟨hi3, hbf⟩ := hv h
      refine Ok.bnd (range_ok ht) fun p5 h5 => ?_
      refine Ok.jn (fun s : Int × List Int × Int => TapeOk (GTape.mk s.2.1 s.2.2)) (fun s hs => ?_) fun J2 hJ2 => ?_
      · obtain ⟨at1, L2, At2⟩ := s
        refine Ok.bnd (elO_ok hi.1 (by simpa using hi3)) fun e he => ?_
        have hem : SmD e := by
          have := he.1
          simp only [List.mem_cons, List.not_mem_nil, or_false] at this
          rcases this with rfl | rfl | rfl
          · exact ha.1.1
          · exact hb.1.1
          · exact hsm hbf
        obtain ⟨l, hl1, hl2⟩ := claims_both hem at1
        obtain ⟨T, hT1, hT2, hT⟩ := view_both hem at1
        simp only [hl1, hl2, hT1, hT2, bnd_s, jn, same_self, Bool.not_true, cond_false, decide_true]
        rw [zip_loop (m := l) eqGOwned (some false) (fun j x Z s => rfl) l rfl, zip_self eqGOwned eqGOwned_self, cond_true, w64_id (by omega) (by omega)]
        exact hZ _ ⟨by simp only; omega, hs⟩ (by simp only; omega)
      · refine Ok.bnd (one_ok h5.2 (by omega)) fun p6 h6 => ?_
        exact Ok.cs (fun _ => hJ2 _ h6) fun _ => hJ2 _ h6
    · rw [awake8]; exact Ok.s rfl
  · refine Ok.cs (fun h => ?_) fun _ => hJ1 _ (by simp)
    rw [hbg, bnd_s]
    exact hJ1 _ fun hb => ⟨by simpa using h, by simpa using hb⟩
end Go.Proofs.Ytjckghpceekieaa
