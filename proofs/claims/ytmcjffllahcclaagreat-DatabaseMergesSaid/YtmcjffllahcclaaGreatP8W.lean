/- Plain: databases as functions of routers; Put and Merge. No condition but those that stand in each. -/
import Derived.Test.YtmcjffllahcclaaGreatP8U
namespace Go.Proofs.YtmcjffllahcclaaGreat
set_option linter.all false
open Go

theorem asc_len : ∀ (l : List GAdvert) (lo : Int), l.Pairwise (fun a b => a.Router < b.Router) → (∀ x ∈ l, lo ≤ x.Router ∧ x.Router ≤ 99) → (l.length : Int) ≤ max 0 (100 - lo)
  | [], lo, _, _ => by simp; omega
  | x :: r, lo, h, hb => by
    rw [List.pairwise_cons] at h
    have h1 := hb x (by simp)
    have := asc_len r (x.Router + 1) h.2 fun y hy => ⟨by have := h.1 y hy; omega, (hb y (by simp [hy])).2⟩
    simp only [List.length_cons]
    omega
theorem vd_mk {d : GDatabase} (h1 : ∀ a ∈ d.Adverts, validB a = true) (h2 : AscD d) : Vd d := by
  refine ⟨?_, h1, h2⟩
  have := asc_len d.Adverts 1 h2 fun x hx => (va_of (h1 x hx)).r
  omega
theorem with_mem {d : GDatabase} {a x : GAdvert} : x ∈ (withT d a).Adverts ↔ x = a ∨ (x ∈ d.Adverts ∧ x.Router ≠ a.Router) := by
  simp only [withT, List.mem_append, List.mem_cons, ltR, gtR, List.mem_filter, decide_eq_true_eq]
  constructor
  · rintro (⟨h1, h2⟩ | rfl | ⟨h1, h2⟩)
    · exact .inr ⟨h1, by omega⟩
    · exact .inl rfl
    · exact .inr ⟨h1, by omega⟩
  · rintro (rfl | ⟨h1, h2⟩)
    · exact .inr (.inl rfl)
    · rcases Int.lt_or_gt_of_ne h2 with h | h
      · exact .inl ⟨h1, h⟩
      · exact .inr (.inr ⟨h1, h⟩)
theorem with_asc {d : GDatabase} (h : AscD d) (a : GAdvert) : AscD (withT d a) := by
  unfold AscD withT
  simp only
  refine List.pairwise_append.2 ⟨List.Pairwise.sublist List.filter_sublist h, List.pairwise_cons.2 ⟨fun y hy => by simpa [gtR] using (List.mem_filter.1 hy).2, List.Pairwise.sublist List.filter_sublist h⟩, fun x hx y hy => ?_⟩
  have h1 : x.Router < a.Router := by simpa using (List.mem_filter.1 hx).2
  rcases List.mem_cons.1 hy with rfl | hy
  · exact h1
  · have : a.Router < y.Router := by simpa using (List.mem_filter.1 hy).2
    omega
theorem Vd.with {d : GDatabase} (h : Vd d) {a : GAdvert} (ha : validB a = true) : Vd (withT d a) :=
  vd_mk (fun x hx => by rcases with_mem.1 hx with rfl | ⟨h1, _⟩; exact ha; exact h.ok x h1) (with_asc h.asc a)
theorem Vd.put {d : GDatabase} (h : Vd d) {a : GAdvert} (ha : validB a = true) : Vd (putT d a).1 := by
  unfold putT
  cases (findA d a.Router).2 && !newerA a (findA d a.Router).1
  · exact h.with ha
  · exact h
/-! ## what is known of a router -/
def look (d : GDatabase) (r : Int) : Option GAdvert := bif (findA d r).2 then some (findA d r).1 else none
theorem look_some {d : GDatabase} (h : Vd d) {r : Int} {a : GAdvert} : look d r = some a ↔ a ∈ d.Adverts ∧ a.Router = r := by
  unfold look
  constructor
  · intro q
    rcases find_cases d r with ⟨b, hb, he, hf⟩ | ⟨hn, hf⟩
    · rw [hf] at q; simp at q; subst q; exact ⟨hb, he⟩
    · rw [hf] at q; simp at q
  · rintro ⟨h1, h2⟩
    rw [h.key h1 h2]; rfl
theorem look_none {d : GDatabase} {r : Int} : look d r = none ↔ ∀ a ∈ d.Adverts, a.Router ≠ r := by
  unfold look
  rcases find_cases d r with ⟨b, hb, he, hf⟩ | ⟨hn, hf⟩
  · rw [hf]; simp; exact ⟨b, hb, he⟩
  · rw [hf]; simp; exact hn
theorem look_ext {d e : GDatabase} (h1 : Vd d) (h2 : Vd e) (h : ∀ r, look d r = look e r) : d = e := by
  have : d.Adverts = e.Adverts := asc_unique (r := fun a b : GAdvert => a.Router < b.Router) (fun a => Int.lt_irrefl _) (fun a b c => Int.lt_trans) h1.asc h2.asc fun x => by
    have a1 := look_some h1 (r := x.Router) (a := x)
    have a2 := look_some h2 (r := x.Router) (a := x)
    rw [h] at a1
    simp only [and_true] at a1 a2
    exact a1.symm.trans a2
  cases d; cases e; simp only at this; rw [this]
def mx (o : Option GAdvert) (a : GAdvert) : GAdvert := match o with | none => a | some x => bif newerA a x then a else x
theorem look_put {d : GDatabase} (h : Vd d) {a : GAdvert} (ha : validB a = true) (r : Int) : look (putT d a).1 r = if r = a.Router then some (mx (look d r) a) else look d r := by
  have hw : ∀ r, look (withT d a) r = if r = a.Router then some a else look d r := fun r => by
    by_cases hr : r = a.Router
    · rw [if_pos hr]
      exact (look_some (h.with ha)).2 ⟨with_mem.2 (.inl rfl), hr.symm⟩
    · rw [if_neg hr]
      cases hl : look d r with
      | none =>
        rw [look_none] at hl ⊢
        intro x hx
        rcases with_mem.1 hx with rfl | ⟨h1, _⟩
        · exact fun e => hr e.symm
        · exact hl x h1
      | some x =>
        obtain ⟨h1, h2⟩ := (look_some h).1 hl
        exact (look_some (h.with ha)).2 ⟨with_mem.2 (.inr ⟨h1, by omega⟩), h2⟩
  unfold putT
  rcases find_cases d a.Router with ⟨b, hb, he, hf⟩ | ⟨hn, hf⟩
  · rw [hf]
    have hlk : look d a.Router = some b := (look_some h).2 ⟨hb, he⟩
    cases hnw : newerA a b
    · simp only [Bool.not_false, Bool.and_self, cond_true]
      by_cases hr : r = a.Router
      · subst hr; rw [if_pos rfl, hlk]; simp [mx, hnw]
      · rw [if_neg hr]
    · simp only [Bool.not_true, Bool.and_false, cond_false]
      rw [hw]
      by_cases hr : r = a.Router
      · subst hr; rw [if_pos rfl, if_pos rfl, hlk]; simp [mx, hnw]
      · rw [if_neg hr, if_neg hr]
  · rw [hf]
    simp only [Bool.false_and, cond_false]
    rw [hw]
    by_cases hr : r = a.Router
    · subst hr; rw [if_pos rfl, if_pos rfl, look_none.2 hn]; rfl
    · rw [if_neg hr, if_neg hr]
/-! ## newer is an order -/
theorem cmpU_ntrans {x y z : List UInt8} (h1 : ¬ 0 < cmpU x y) (h2 : ¬ 0 < cmpU y z) : ¬ 0 < cmpU x z := by
  intro h
  rcases Int.lt_trichotomy (cmpU x y) 0 with g | g | g
  · have : 0 < cmpU y x := by rw [cmpU_swap]; omega
    exact h2 (cmpU_trans this h)
  · rw [cmpU_eq g] at h; exact h2 h
  · exact h1 g
theorem verA_irrefl (a : GAdvert) : verA a a = false := by simp [verA, cmpU_refl]
theorem verA_asymm {a b : GAdvert} (h : verA a b = true) : verA b a = false := by
  simp only [verA, Bool.or_eq_true, Bool.and_eq_true, decide_eq_true_eq] at h
  simp only [verA, Bool.or_eq_false_iff, Bool.and_eq_false_iff, decide_eq_false_iff_not]
  rcases h with h | ⟨h1, h2⟩
  · exact ⟨by omega, .inl (by omega)⟩
  · exact ⟨by omega, .inr (by rw [cmpU_swap]; omega)⟩
theorem verA_ntrans {a b c : GAdvert} (h1 : verA a b = false) (h2 : verA b c = false) : verA a c = false := by
  simp only [verA, Bool.or_eq_false_iff, Bool.and_eq_false_iff, decide_eq_false_iff_not] at *
  refine ⟨by omega, ?_⟩
  by_cases e : a.Seq = c.Seq
  · right
    have e1 : a.Seq = b.Seq := by omega
    have e2 : b.Seq = c.Seq := by omega
    rcases h1.2 with g | g
    · exact absurd e1 g
    rcases h2.2 with g' | g'
    · exact absurd e2 g'
    exact cmpU_ntrans g g'
  · exact .inl e
/-! ## Merge -/
def mergeT (a b : GDatabase) : GDatabase := b.Adverts.foldl (fun m e => (putT m e).1) a
theorem foldl_inv {α β : Type} {f : β → α → β} {P : β → Prop} : ∀ (l : List α) (b : β), P b → (∀ b x, x ∈ l → P b → P (f b x)) → P (l.foldl f b)
  | [], b, h, _ => h
  | x :: l, b, h, hs => by
    simp only [List.foldl_cons]
    exact foldl_inv l _ (hs b x (by simp) h) fun b y hy => hs b y (by simp [hy])
theorem Vd.merge {a b : GDatabase} (ha : Vd a) (hb : Vd b) : Vd (mergeT a b) :=
  foldl_inv (P := Vd) b.Adverts a ha fun d x hx h => h.put (hb.ok x hx)
theorem look_merge {a b : GDatabase} (ha : Vd a) (hb : Vd b) (r : Int) : look (mergeT a b) r = match look b r with | none => look a r | some y => some (mx (look a r) y) := by
  have key : ∀ (l : List GAdvert) (d : GDatabase), Vd d → (∀ x ∈ l, validB x = true) → l.Pairwise (fun a b => a.Router < b.Router) →
      look (l.foldl (fun m e => (putT m e).1) d) r = match l.find? (fun x => decide (x.Router = r)) with | none => look d r | some y => some (mx (look d r) y) := by
    intro l
    induction l with
    | nil => intro d _ _ _; rfl
    | cons x l ih =>
      intro d hd hv hp
      rw [List.pairwise_cons] at hp
      simp only [List.foldl_cons]
      rw [ih _ (hd.put (hv x (by simp))) (fun y hy => hv y (by simp [hy])) hp.2, look_put hd (hv x (by simp)), List.find?_cons]
      by_cases hr : r = x.Router
      · rw [if_pos hr]
        have : l.find? (fun x => decide (x.Router = r)) = none := List.find?_eq_none.2 fun y hy => by have := hp.1 y hy; simp; omega
        rw [this]; simp [hr]
      · rw [if_neg hr]
        have : decide (x.Router = r) = false := by simp; omega
        rw [this]
  unfold mergeT
  rw [key b.Adverts a ha hb.ok hb.asc]
  unfold look findA
  cases b.Adverts.find? (fun x => decide (x.Router = r)) <;> rfl
theorem ref08_merge (a b : GDatabase) : m_ref08_Merge a b = some (if dbC a = 0 ∧ dbC b = 0 then (mergeT a b, 0) else (GDatabase.mk [], 1)) := by
  unfold m_ref08_Merge
  simp only [jn, ref08_check, bnd_s]
  by_cases h1 : dbC a = 0
  · by_cases h2 : dbC b = 0
    · simp only [h1, h2, decide_true, Bool.not_true, cond_false, and_self, if_true]
      refine Ok.eq ?_
      refine Ok.forL (fun P (m : List GAdvert) => GDatabase.mk m = P.foldl (fun m e => (putT m e).1) a ∧ Vd (GDatabase.mk m)) ?_ _ ⟨rfl, vd_iff.1 h1⟩ (fun m hm => Ok.s (by rw [hm.1]; rfl))
      rintro P x r m Z hL ⟨hm, hv⟩ hZ
      have hx := (vd_iff.1 h2).ok x (by rw [hL]; simp)
      rw [ref08_put, if_pos ⟨vd_iff.2 hv, hx⟩, bnd_s]
      exact hZ _ ⟨by rw [List.foldl_append, ← hm]; rfl, hv.put hx⟩
    · simp [h1, h2]
  · simp [h1]
theorem Va.sm {a : GAdvert} (h : validB a = true) : SmA a := by have := va_of h; exact ⟨by have := this.n; omega, by have := this.nc; omega⟩
theorem db_merge {a : GDatabase} (hs : SmD a) (b : GDatabase) : m_database_Merge a b = some (if dbC a = 0 ∧ dbC b = 0 then (mergeT a b, 0) else (GDatabase.mk [], 1)) := by
  unfold m_database_Merge
  simp only [jn, db_check, db_clone hs, bnd_s]
  by_cases h1 : dbC a = 0
  · by_cases h2 : dbC b = 0
    · simp only [h1, h2, decide_true, Bool.not_true, cond_false, and_self, if_true]
      refine Ok.eq ?_
      refine Ok.forL (fun P (m : List GAdvert) => GDatabase.mk m = P.foldl (fun m e => (putT m e).1) a ∧ Vd (GDatabase.mk m)) ?_ _ ⟨rfl, vd_iff.1 h1⟩ (fun m hm => Ok.s (by rw [hm.1]; rfl))
      rintro P x r m Z hL ⟨hm, hv⟩ hZ
      have hx := (vd_iff.1 h2).ok x (by rw [hL]; simp)
      rw [db_put hv.asc (by have := hv.n; omega) (Va.sm hx), bnd_s]
      exact hZ _ ⟨by rw [List.foldl_append, ← hm]; rfl, hv.put hx⟩
    · simp [h1, h2]
  · simp [h1]
theorem sameD_self (a : GDatabase) : sameD a a = true := by unfold sameD; rw [zip_self sameA sameA_self]; simp
end Go.Proofs.YtmcjffllahcclaaGreat
