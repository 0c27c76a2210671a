/- Plain: the bits of an aaH. No condition but bR bw stand in each. -/
import Derived.Test.YtmfehenfoepkfaaPYH
namespace Go.Proofs.Ytmfehenfoepkfaa
set_option linter.all false
open Go
theorem abh : ∀ (l : List Int) (lo hi : Int), l.Pairwise (· < ·) → (∀ x ∈ l, lo ≤ x ∧ x < hi) → (l.length : Int) ≤ max (hi - lo) 0
 | [], lo, hi, _, _ => by simp; omega
 | x :: r, lo, hi, h, hb => by
  rw [List.pairwise_cons] at h
  have := abh r (x + 1) hi h.2 fun y hy => ⟨by have := h.1 y hy; omega, (hb y (by simp [hy])).2⟩
  have := hb x (by simp)
  rw [List.length_cons]; omega
theorem Ve.small {e : aB} (h : Ve e) : e.List.length ≤ 64 := by
 have := abh (e.List.map (·.Bit)) 0 64 (List.pairwise_map.2 h.asc) fun x hx => by
  obtain ⟨a, ha, rfl⟩ := List.mem_map.1 hx
  exact h.bit ha
 rw [List.length_map] at this; omega
theorem Ve.abi {e : aB} (h : Ve e) {a b : ai} (ha : a ∈ e.List) (hb : b ∈ e.List) (hab : a.Bit = b.Bit) : a = b := by
 obtain ⟨i, hi⟩ := List.getElem?_of_mem ha
 obtain ⟨j, hj⟩ := List.getElem?_of_mem hb
 obtain ⟨h1, rfl⟩ := List.getElem?_eq_some_iff.1 hi
 obtain ⟨h2, rfl⟩ := List.getElem?_eq_some_iff.1 hj
 have hp := List.pairwise_iff_getElem.1 h.asc
 rcases Nat.lt_trichotomy i j with hij | hij | hij
 ·have := hp i j h1 h2 hij; omega
 ·subst hij; rfl
 ·have := hp j i h2 h1 hij; omega
theorem Ve.key_inj {e : aB} (h : Ve e) {a b : ai} (ha : a ∈ e.List) (hb : b ∈ e.List) (hab : tgA a = tgA b) : a = b := by
 obtain ⟨i, hi⟩ := List.getElem?_of_mem ha
 obtain ⟨j, hj⟩ := List.getElem?_of_mem hb
 obtain ⟨h1, rfl⟩ := List.getElem?_eq_some_iff.1 hi
 obtain ⟨h2, rfl⟩ := List.getElem?_eq_some_iff.1 hj
 have hp := List.pairwise_iff_getElem.1 h.dup
 rcases Nat.lt_trichotomy i j with hij | hij | hij
 ·exact absurd hab (hp i j h1 h2 hij)
 ·subst hij; rfl
 ·exact absurd hab.symm (hp j i h2 h1 hij)
theorem xF {r : Int} : ∀ (l : List ai) (acc : Int), B64 acc → (∀ a ∈ l, 0 ≤ a.Bit ∧ a.Bit < 64) → B64 (l.foldl (rW r) acc) ∧ ∀ i, tbi (l.foldl (rW r) acc) i = (tbi acc i || decide (∃ a ∈ l, a.aT = r ∧ a.Bit = i))
 | [], acc, h, _ => ⟨h, fun i => by simp⟩
 | a :: l, acc, h, hb => by
  have hb1 := hb a (by simp)
  have hB : B64 (rW r acc a) := by unfold rW; split; exact aci; exact h
  obtain ⟨h1, h2⟩ := xF l (rW r acc a) hB fun x hx => hb x (by simp [hx])
  refine ⟨h1, fun i => ?_⟩
  rw [List.foldl_cons, h2]
  unfold rW
  by_cases hr : a.aT = r
  ·rw [if_pos hr, zK h (tq (by omega)), qV a.Bit.toNat i (by omega), Bool.eq_iff_iff]
   simp only [Bool.or_eq_true, decide_eq_true_eq, List.mem_cons]
   constructor
   ·rintro ((h | h) | ⟨x, hx, h3⟩)
    ·exact .inl h
    ·exact .inr ⟨a, .inl rfl, hr, by omega⟩
    ·exact .inr ⟨x, .inr hx, h3⟩
   ·rintro (h | ⟨x, rfl | hx, h3, h4⟩)
    ·exact .inl (.inl h)
    ·exact .inl (.inr (by omega))
    ·exact .inr ⟨x, hx, h3, h4⟩
  ·rw [if_neg hr]; simp [hr]
theorem aco {e : aB} (h : Ve e) (r : Int) : B64 (rX e r) := by
 unfold rX; rw [if_pos (jV.2 h)]
 exact (xF e.List 0 qi fun a ha => h.bit ha).1
theorem aaL {e : aB} (h : Ve e) (r : Int) (i : Nat) : tbi (rX e r) i = true ↔ ∃ a ∈ e.List, a.aT = r ∧ a.Bit = i := by
 unfold rX; rw [if_pos (jV.2 h)]
 rw [(xF e.List 0 qi fun a ha => h.bit ha).2, oF, Bool.false_or, decide_eq_true_eq]
theorem abj {e : aB} (h : Ve e) {a : ai} (ha : a ∈ e.List) : gY e a.aT a.Kind a.To = (a.Bit, true) := by
 unfold gY p6; rw [if_pos (jV.2 h)]
 cases hf : e.List.find? (fun x => decide (x.aT = a.aT) && (decide (x.Kind = a.Kind) && decide (x.To = a.To))) with
 | none =>
  have := List.find?_eq_none.1 hf a ha
  simp at this
 | some b =>
  have h1 := List.find?_some hf
  have h2 := List.mem_of_find?_eq_some hf
  simp only [Bool.and_eq_true, decide_eq_true_eq] at h1
  have : b = a := h.key_inj h2 ha (by simp [tgA, h1.1, h1.2.1, h1.2.2])
  subst this; rfl
theorem zw {e : aB} {r k q b : Int} (hf : gY e r k q = (b, true)) : Ve e ∧ ∃ a ∈ e.List, a.aT = r ∧ a.Kind = k ∧ a.To = q ∧ a.Bit = b := by
 unfold gY p6 at hf
 by_cases h : iM e = 0
 ·rw [if_pos h] at hf
  refine ⟨jV.1 h, ?_⟩
  cases hq : e.List.find? (fun x => decide (x.aT = r) && (decide (x.Kind = k) && decide (x.To = q))) with
  | none => rw [hq] at hf; simp at hf
  | some a =>
   rw [hq] at hf; simp at hf
   have h1 := List.find?_some hq
   simp only [Bool.and_eq_true, decide_eq_true_eq] at h1
   exact ⟨a, List.mem_of_find?_eq_some hq, h1.1, h1.2.1, h1.2.2, hf⟩
 ·rw [if_neg h] at hf; simp at hf
end Go.Proofs.Ytmfehenfoepkfaa
