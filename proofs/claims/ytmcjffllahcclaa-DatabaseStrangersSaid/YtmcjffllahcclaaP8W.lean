/- Plain: databases as functions of routers; Put and Merge. No condition but those that stand in each. -/
import Derived.Test.YtmcjffllahcclaaP8U
namespace Go.Proofs.Ytmcjffllahcclaa
set_option linter.all false
open Go

theorem asc_len : ∀ (l : List GAdvert) (lo : Int), l.Pairwise (fun a b => a.Router < b.Router) → (∀ x ∈ l, lo ≤ x.Router ∧ x.Router ≤ 99) → (l.length : Int) ≤ max 0 (100 - lo)
  | [], lo, _, _ => by simp; omega
  | x :: r, lo, h, hb => by
    rw [List.pairwise_cons] at h
    have h1 := hb x (by simp)
    have := asc_len r (x.Router + 1) h.2 fun y hy => ⟨by have := h.1 y hy; omega, (hb y (by simp [hy])).2⟩
    simp only [List.length_cons]
    omega
theorem vd_mk {d : GDatabase} (h1 : ∀ a ∈ d.Adverts, validB a = true) (h2 : AscD d) : Vd d := by
  refine ⟨?_, h1, h2⟩
  have := asc_len d.Adverts 1 h2 fun x hx => (va_of (h1 x hx)).r
  omega
theorem with_mem {d : GDatabase} {a x : GAdvert} : x ∈ (withT d a).Adverts ↔ x = a ∨ (x ∈ d.Adverts ∧ x.Router ≠ a.Router) := by
  simp only [withT, List.mem_append, List.mem_cons, ltR, gtR, List.mem_filter, decide_eq_true_eq]
  constructor
  · rintro (⟨h1, h2⟩ | rfl | ⟨h1, h2⟩)
    · exact .inr ⟨h1, by omega⟩
    · exact .inl rfl
    · exact .inr ⟨h1, by omega⟩
  · rintro (rfl | ⟨h1, h2⟩)
    · exact .inr (.inl rfl)
    · rcases Int.lt_or_gt_of_ne h2 with h | h
      · exact .inl ⟨h1, h⟩
      · exact .inr (.inr ⟨h1, h⟩)
theorem with_asc {d : GDatabase} (h : AscD d) (a : GAdvert) : AscD (withT d a) := by
  unfold AscD withT
  simp only
  refine List.pairwise_append.2 ⟨List.Pairwise.sublist List.filter_sublist h, List.pairwise_cons.2 ⟨fun y hy => by simpa [gtR] using (List.mem_filter.1 hy).2, List.Pairwise.sublist List.filter_sublist h⟩, fun x hx y hy => ?_⟩
  have h1 : x.Router < a.Router := by simpa using (List.mem_filter.1 hx).2
  rcases List.mem_cons.1 hy with rfl | hy
  · exact h1
  · have : a.Router < y.Router := by simpa using (List.mem_filter.1 hy).2
    omega
theorem Vd.with {d : GDatabase} (h : Vd d) {a : GAdvert} (ha : validB a = true) : Vd (withT d a) :=
  vd_mk (fun x hx => by rcases with_mem.1 hx with rfl | ⟨h1, _⟩; exact ha; exact h.ok x h1) (with_asc h.asc a)
theorem Vd.put {d : GDatabase} (h : Vd d) {a : GAdvert} (ha : validB a = true) : Vd (putT d a).1 := by
  unfold putT
  cases (findA d a.Router).2 && !newerA a (findA d a.Router).1
  · exact h.with ha
  · exact h
/-! ## what is known of a router -/
def mx (o : Option GAdvert) (a : GAdvert) : GAdvert := match o with | none => a | some x => bif newerA a x then a else x
/-! ## newer is an order -/
/-! ## Merge -/
theorem Va.sm {a : GAdvert} (h : validB a = true) : SmA a := by have := va_of h; exact ⟨by have := this.n; omega, by have := this.nc; omega⟩
end Go.Proofs.Ytmcjffllahcclaa
