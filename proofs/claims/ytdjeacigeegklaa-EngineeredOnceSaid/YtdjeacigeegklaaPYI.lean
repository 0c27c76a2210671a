/- Plain: the bits of an aaG. No condition but bL aY stand in each. -/
import Derived.Test.YtdjeacigeegklaaPYH
namespace Go.Proofs.Ytdjeacigeegklaa
set_option linter.all false
open Go
theorem abk : ∀ (l : List Int) (lo hi : Int), l.Pairwise (· < ·) → (∀ x ∈ l, lo ≤ x ∧ x < hi) → (l.length : Int) ≤ max (hi - lo) 0
 | [], lo, hi, _, _ => by simp; omega
 | x :: r, lo, hi, h, hb => by
  rw [List.pairwise_cons] at h
  have := abk r (x + 1) hi h.2 fun y hy => ⟨by have := h.1 y hy; omega, (hb y (by simp [hy])).2⟩
  have := hb x (by simp)
  rw [List.length_cons]; omega
theorem Ve.small {e : aM} (h : Ve e) : e.List.length ≤ 64 := by
 have := abk (e.List.map (·.Bit)) 0 64 (List.pairwise_map.2 h.asc) fun x hx => by
  obtain ⟨a, ha, rfl⟩ := List.mem_map.1 hx
  exact h.bit ha
 rw [List.length_map] at this; omega
theorem Ve.akT {e : aM} (h : Ve e) {a b : ah} (ha : a ∈ e.List) (hb : b ∈ e.List) (hab : a.Bit = b.Bit) : a = b := by
 obtain ⟨i, hi⟩ := List.getElem?_of_mem ha
 obtain ⟨j, hj⟩ := List.getElem?_of_mem hb
 obtain ⟨h1, rfl⟩ := List.getElem?_eq_some_iff.1 hi
 obtain ⟨h2, rfl⟩ := List.getElem?_eq_some_iff.1 hj
 have hp := List.pairwise_iff_getElem.1 h.asc
 rcases Nat.lt_trichotomy i j with hij | hij | hij
 ·have := hp i j h1 h2 hij; omega
 ·subst hij; rfl
 ·have := hp j i h2 h1 hij; omega
theorem Ve.key_inj {e : aM} (h : Ve e) {a b : ah} (ha : a ∈ e.List) (hb : b ∈ e.List) (hab : tgA a = tgA b) : a = b := by
 obtain ⟨i, hi⟩ := List.getElem?_of_mem ha
 obtain ⟨j, hj⟩ := List.getElem?_of_mem hb
 obtain ⟨h1, rfl⟩ := List.getElem?_eq_some_iff.1 hi
 obtain ⟨h2, rfl⟩ := List.getElem?_eq_some_iff.1 hj
 have hp := List.pairwise_iff_getElem.1 h.dup
 rcases Nat.lt_trichotomy i j with hij | hij | hij
 ·exact absurd hab (hp i j h1 h2 hij)
 ·subst hij; rfl
 ·exact absurd hab.symm (hp j i h2 h1 hij)
theorem aaJ {r : Int} : ∀ (l : List ah) (acc : Int), B64 acc → (∀ a ∈ l, 0 ≤ a.Bit ∧ a.Bit < 64) → B64 (l.foldl (oH r) acc) ∧ ∀ i, tbi (l.foldl (oH r) acc) i = (tbi acc i || decide (∃ a ∈ l, a.aR = r ∧ a.Bit = i))
 | [], acc, h, _ => ⟨h, fun i => by simp⟩
 | a :: l, acc, h, hb => by
  have hb1 := hb a (by simp)
  have hB : B64 (oH r acc a) := by unfold oH; split; exact or_b; exact h
  obtain ⟨h1, h2⟩ := aaJ l (oH r acc a) hB fun x hx => hb x (by simp [hx])
  refine ⟨h1, fun i => ?_⟩
  rw [List.foldl_cons, h2]
  unfold oH
  by_cases hr : a.aR = r
  ·rw [if_pos hr, arv h (aaB (by omega)), nU a.Bit.toNat i (by omega), Bool.eq_iff_iff]
   simp only [Bool.or_eq_true, decide_eq_true_eq, List.mem_cons]
   constructor
   ·rintro ((h | h) | ⟨x, hx, h3⟩)
    ·exact .inl h
    ·exact .inr ⟨a, .inl rfl, hr, by omega⟩
    ·exact .inr ⟨x, .inr hx, h3⟩
   ·rintro (h | ⟨x, rfl | hx, h3, h4⟩)
    ·exact .inl (.inl h)
    ·exact .inl (.inr (by omega))
    ·exact .inr ⟨x, hx, h3, h4⟩
  ·rw [if_neg hr]; simp [hr]
theorem vj {e : aM} (h : Ve e) (r : Int) (i : Nat) : tbi (nH e r) i = true ↔ ∃ a ∈ e.List, a.aR = r ∧ a.Bit = i := by
 unfold nH; rw [if_pos (rE.2 h)]
 rw [(aaJ e.List 0 s6 fun a ha => h.bit ha).2, jI, Bool.false_or, decide_eq_true_eq]
theorem zA {e : aM} (h : Ve e) {a : ah} (ha : a ∈ e.List) : qw e a.aR a.Kind a.To = (a.Bit, true) := by
 unfold qw acq; rw [if_pos (rE.2 h)]
 cases hf : e.List.find? (fun x => decide (x.aR = a.aR) && (decide (x.Kind = a.Kind) && decide (x.To = a.To))) with
 | none =>
  have := List.find?_eq_none.1 hf a ha
  simp at this
 | some b =>
  have h1 := List.find?_some hf
  have h2 := List.mem_of_find?_eq_some hf
  simp only [Bool.and_eq_true, decide_eq_true_eq] at h1
  have : b = a := h.key_inj h2 ha (by simp [tgA, h1.1, h1.2.1, h1.2.2])
  subst this; rfl
end Go.Proofs.Ytdjeacigeegklaa
