/- Plain: the View of a database, by both. No condition. -/
import Derived.Test.YtmcjffllahcclaaGreatP8A
import Derived.Test.YtmcjffllahcclaaGreatPM
namespace Go.Proofs.YtmcjffllahcclaaGreat
set_option linter.all false
open Go

structure Vd (d : GDatabase) : Prop where
  n : d.Adverts.length ≤ 99
  ok : ∀ a ∈ d.Adverts, validB a = true
  asc : d.Adverts.Pairwise (fun a b => a.Router < b.Router)
theorem vd_iff {d : GDatabase} : dbC d = 0 ↔ Vd d := by
  unfold dbC ascA
  constructor
  · intro h
    by_cases h1 : (99 : Int) < d.Adverts.length
    · simp [h1] at h
    cases h2 : d.Adverts.all validB
    · simp [h1, h2] at h
    cases h3 : adjB (fun a b : GAdvert => decide (a.Router < b.Router)) d.Adverts
    · simp [h1, h2, h3] at h
    refine ⟨by omega, fun a ha => List.all_eq_true.1 h2 a ha, ?_⟩
    have := adj_pairwise (p := fun a b : GAdvert => decide (a.Router < b.Router)) (fun a b c h1 h2 => by simp at h1 h2 ⊢; omega) h3
    exact this.imp (fun h => by simpa using h)
  · intro h
    have h1 : ¬ (99 : Int) < d.Adverts.length := by have := h.n; omega
    have h2 : d.Adverts.all validB = true := List.all_eq_true.2 h.ok
    have h3 : adjB (fun a b : GAdvert => decide (a.Router < b.Router)) d.Adverts = true := pairwise_adj (h.asc.imp fun h => by simpa using h)
    simp [h1, h2, h3]
structure Va (a : GAdvert) : Prop where
  r : 1 ≤ a.Router ∧ a.Router ≤ 99
  n : a.Links.length ≤ 23
  nc : a.Claims.length ≤ 8
  g : ∀ x ∈ a.Links, (1 ≤ x.Neighbour ∧ x.Neighbour ≤ 99) ∧ x.Neighbour ≠ a.Router ∧ (1 ≤ x.Cost ∧ x.Cost ≤ 1000) ∧ 0 ≤ x.Capacity ∧ x.Capacity ≤ 1000
  asc : a.Links.Pairwise (fun x y => x.Neighbour < y.Neighbour)
theorem va_of {a : GAdvert} (h : validB a = true) : Va a := by
  simp only [validB, Bool.and_eq_true, decide_eq_true_eq, inB] at h
  obtain ⟨⟨⟨⟨h1, _⟩, h2⟩, h3, h4⟩, h5, _⟩ := h
  refine ⟨h1, by omega, by omega, fun x hx => ?_, ?_⟩
  · have := List.all_eq_true.1 h3 x hx
    simp only [goodR, inB, Bool.and_eq_true, decide_eq_true_eq, Bool.not_eq_true', decide_eq_false_iff_not] at this
    exact ⟨this.1.1.1, this.1.1.2, this.1.2, this.2⟩
  · have := adj_pairwise (p := fun a b : GReach => decide (a.Neighbour < b.Neighbour)) (fun a b c h1 h2 => by simp at h1 h2 ⊢; omega) h4
    exact this.imp (fun h => by simpa using h)
theorem Vd.sm {d : GDatabase} (h : Vd d) : SmD d := ⟨by have := h.n; omega, fun a ha => by have := va_of (h.ok a ha); exact ⟨by have := this.n; omega, by have := this.nc; omega⟩⟩
theorem uniq_key {α : Type} {f : α → Int} : ∀ {l : List α}, l.Pairwise (fun a b => f a < f b) → ∀ {a b : α}, a ∈ l → b ∈ l → f a = f b → a = b
  | [], _, _, _, h, _, _ => by simp at h
  | x :: r, hp, a, b, ha, hb, he => by
    rw [List.pairwise_cons] at hp
    rcases List.mem_cons.1 ha with ea | ha'
    · rcases List.mem_cons.1 hb with eb | hb'
      · rw [ea, eb]
      · have := hp.1 b hb'; rw [ea] at he; omega
    · rcases List.mem_cons.1 hb with eb | hb'
      · have := hp.1 a ha'; rw [eb] at he; omega
      · exact uniq_key hp.2 ha' hb' he
theorem Vd.uniq {d : GDatabase} (h : Vd d) {a b : GAdvert} (ha : a ∈ d.Adverts) (hb : b ∈ d.Adverts) (he : a.Router = b.Router) : a = b := uniq_key h.asc ha hb he
theorem Va.uniq {a : GAdvert} (h : Va a) {x y : GReach} (hx : x ∈ a.Links) (hy : y ∈ a.Links) (he : x.Neighbour = y.Neighbour) : x = y := uniq_key h.asc hx hy he

theorem find_cases (d : GDatabase) (r : Int) : (∃ a ∈ d.Adverts, a.Router = r ∧ findA d r = (a, true)) ∨ ((∀ a ∈ d.Adverts, a.Router ≠ r) ∧ findA d r = (noA, false)) := by
  unfold findA
  cases h : d.Adverts.find? (fun a => decide (a.Router = r)) with
  | some a => exact .inl ⟨a, List.mem_of_find?_eq_some h, by simpa using List.find?_some h, rfl⟩
  | none => exact .inr ⟨fun a ha => by simpa using List.find?_eq_none.1 h a ha, rfl⟩
theorem find_in {d : GDatabase} (h : Vd d) {a : GAdvert} (ha : a ∈ d.Adverts) : findA d a.Router = (a, true) := by
  rcases find_cases d a.Router with ⟨b, hb, he, hf⟩ | ⟨hn, _⟩
  · rw [hf, h.uniq hb ha he]
  · exact absurd rfl (hn a ha)
/-! links -/
def LkD (d : GDatabase) (a b : Int) : Prop := ∃ x ∈ d.Adverts, ∃ y ∈ d.Adverts, x.Router = a ∧ y.Router = b ∧ (∃ p ∈ x.Links, p.Neighbour = b) ∧ ∃ q ∈ y.Links, q.Neighbour = a
theorem LkD.symm {d : GDatabase} {a b : Int} (h : LkD d a b) : LkD d b a := by
  obtain ⟨x, hx, y, hy, e1, e2, p, q⟩ := h
  exact ⟨y, hy, x, hx, e2, e1, q, p⟩
def mkL (x : GAdvert) (p : GReach) (y : GAdvert) (q : GReach) : GLink := GLink.mk x.Router y.Router p.Cost q.Cost (if q.Capacity < p.Capacity then q.Capacity else p.Capacity)
/-- the link of x to y -/
def IsLy (x y : GAdvert) (l : GLink) : Prop := ∃ p ∈ x.Links, ∃ q ∈ y.Links, x.Router < y.Router ∧ p.Neighbour = y.Router ∧ q.Neighbour = x.Router ∧ l = mkL x p y q
inductive Rd (d : GDatabase) (at1 : Int) : Int → Prop
  | refl : Rd d at1 at1
  | step {a b : Int} (h : Rd d at1 a) (hl : LkD d a b) : Rd d at1 b
structure IsV (d : GDatabase) (at1 : Int) (T : GTopology) : Prop where
  rasc : T.Routers.Pairwise (fun a b => a.ID < b.ID)
  rmem : ∀ r, r ∈ T.Routers ↔ ∃ a ∈ d.Adverts, Rd d at1 a.Router ∧ r = GRouter.mk a.Router a.Capable
  lasc : T.Links.Pairwise (fun a b => ltL a b = true)
  lmem : ∀ l, l ∈ T.Links ↔ ∃ x ∈ d.Adverts, Rd d at1 x.Router ∧ ∃ y ∈ d.Adverts, IsLy x y l
theorem asc_unique {α : Type} {r : α → α → Prop} (hi : ∀ a, ¬ r a a) (ht : ∀ a b c, r a b → r b c → r a c) : ∀ {l m : List α}, l.Pairwise r → m.Pairwise r → (∀ x, x ∈ l ↔ x ∈ m) → l = m
  | [], [], _, _, _ => rfl
  | [], y :: m, _, _, h => by have := (h y).2 (by simp); simp at this
  | x :: l, [], _, _, h => by have := (h x).1 (by simp); simp at this
  | x :: l, y :: m, h1, h2, h => by
    rw [List.pairwise_cons] at h1 h2
    have hxy : x = y := by
      rcases List.mem_cons.1 ((h x).1 (by simp)) with e | e
      · exact e
      rcases List.mem_cons.1 ((h y).2 (by simp)) with e' | e'
      · exact e'.symm
      · exact absurd (ht _ _ _ (h1.1 y e') (h2.1 x e)) (hi x)
    subst hxy
    congr 1
    refine asc_unique hi ht h1.2 h2.2 fun z => ?_
    have := h z
    simp only [List.mem_cons] at this
    constructor
    · intro hz
      rcases this.1 (.inr hz) with q | q
      · subst q; exact absurd (h1.1 _ hz) (hi _)
      · exact q
    · intro hz
      rcases this.2 (.inr hz) with q | q
      · subst q; exact absurd (h2.1 _ hz) (hi _)
      · exact q
theorem IsV.unique {d : GDatabase} {at1 : Int} {T U : GTopology} (h1 : IsV d at1 T) (h2 : IsV d at1 U) : T = U := by
  obtain ⟨r1, l1⟩ := T
  obtain ⟨r2, l2⟩ := U
  have e1 : r1 = r2 := asc_unique (r := fun a b : GRouter => a.ID < b.ID) (fun a h => by omega) (fun a b c h h' => by omega) h1.rasc h2.rasc fun x => (h1.rmem x).trans (h2.rmem x).symm
  have e2 : l1 = l2 := asc_unique (r := fun a b : GLink => ltL a b = true) (fun a h => by simp [ltL] at h) (fun a b c h h' => ltL_trans a b c h h') h1.lasc h2.lasc fun x => (h1.lmem x).trans (h2.lmem x).symm
  rw [e1, e2]
def nilT : GTopology := GTopology.mk [] []
/-- what a View is -/
def ViewP (d : GDatabase) (at1 : Int) (T : GTopology) : Prop := (¬ ((∃ a ∈ d.Adverts, a.Router = at1) ∧ Vd d) ∧ T = nilT) ∨ (((∃ a ∈ d.Adverts, a.Router = at1) ∧ Vd d) ∧ ∃ T0, IsV d at1 T0 ∧ T = if chkT T0 = 0 then T0 else nilT)
theorem ViewP.unique {d : GDatabase} {at1 : Int} {T U : GTopology} (h1 : ViewP d at1 T) (h2 : ViewP d at1 U) : T = U := by
  rcases h1 with ⟨a, b⟩ | ⟨a, T0, b, c⟩ <;> rcases h2 with ⟨a', b'⟩ | ⟨a', U0, b', c'⟩
  · rw [b, b']
  · exact absurd a' a
  · exact absurd a a'
  · rw [c, c', b.unique b']

def rts (d : GDatabase) : List Int := d.Adverts.map (·.Router)
theorem LkD.mem {d : GDatabase} {a b : Int} (h : LkD d a b) : b ∈ rts d := by
  obtain ⟨x, hx, y, hy, e1, e2, _⟩ := h
  exact List.mem_map.2 ⟨y, hy, e2⟩

/-! ## the specification's View -/
theorem Vd.key {d : GDatabase} (h : Vd d) {a : GAdvert} {r : Int} (ha : a ∈ d.Adverts) (he : a.Router = r) : findA d r = (a, true) := by subst he; exact find_in h ha
/-! ## the program's View -/
end Go.Proofs.YtmcjffllahcclaaGreat
