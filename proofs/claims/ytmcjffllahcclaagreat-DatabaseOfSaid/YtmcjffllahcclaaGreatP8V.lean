/- Plain: the View of a database, by both. No condition. -/
import Derived.Test.YtmcjffllahcclaaGreatP8A
import Derived.Test.YtmcjffllahcclaaGreatPM
namespace Go.Proofs.YtmcjffllahcclaaGreat
set_option linter.all false
open Go

structure Vd (d : GDatabase) : Prop where
  n : d.Adverts.length ≤ 99
  ok : ∀ a ∈ d.Adverts, validB a = true
  asc : d.Adverts.Pairwise (fun a b => a.Router < b.Router)
theorem vd_iff {d : GDatabase} : dbC d = 0 ↔ Vd d := by
  unfold dbC ascA
  constructor
  · intro h
    by_cases h1 : (99 : Int) < d.Adverts.length
    · simp [h1] at h
    cases h2 : d.Adverts.all validB
    · simp [h1, h2] at h
    cases h3 : adjB (fun a b : GAdvert => decide (a.Router < b.Router)) d.Adverts
    · simp [h1, h2, h3] at h
    refine ⟨by omega, fun a ha => List.all_eq_true.1 h2 a ha, ?_⟩
    have := adj_pairwise (p := fun a b : GAdvert => decide (a.Router < b.Router)) (fun a b c h1 h2 => by simp at h1 h2 ⊢; omega) h3
    exact this.imp (fun h => by simpa using h)
  · intro h
    have h1 : ¬ (99 : Int) < d.Adverts.length := by have := h.n; omega
    have h2 : d.Adverts.all validB = true := List.all_eq_true.2 h.ok
    have h3 : adjB (fun a b : GAdvert => decide (a.Router < b.Router)) d.Adverts = true := pairwise_adj (h.asc.imp fun h => by simpa using h)
    simp [h1, h2, h3]
structure Va (a : GAdvert) : Prop where
  r : 1 ≤ a.Router ∧ a.Router ≤ 99
  n : a.Links.length ≤ 23
  nc : a.Claims.length ≤ 8
  g : ∀ x ∈ a.Links, (1 ≤ x.Neighbour ∧ x.Neighbour ≤ 99) ∧ x.Neighbour ≠ a.Router ∧ (1 ≤ x.Cost ∧ x.Cost ≤ 1000) ∧ 0 ≤ x.Capacity ∧ x.Capacity ≤ 1000
  asc : a.Links.Pairwise (fun x y => x.Neighbour < y.Neighbour)
theorem va_of {a : GAdvert} (h : validB a = true) : Va a := by
  simp only [validB, Bool.and_eq_true, decide_eq_true_eq, inB] at h
  obtain ⟨⟨⟨⟨h1, _⟩, h2⟩, h3, h4⟩, h5, _⟩ := h
  refine ⟨h1, by omega, by omega, fun x hx => ?_, ?_⟩
  · have := List.all_eq_true.1 h3 x hx
    simp only [goodR, inB, Bool.and_eq_true, decide_eq_true_eq, Bool.not_eq_true', decide_eq_false_iff_not] at this
    exact ⟨this.1.1.1, this.1.1.2, this.1.2, this.2⟩
  · have := adj_pairwise (p := fun a b : GReach => decide (a.Neighbour < b.Neighbour)) (fun a b c h1 h2 => by simp at h1 h2 ⊢; omega) h4
    exact this.imp (fun h => by simpa using h)
theorem Vd.sm {d : GDatabase} (h : Vd d) : SmD d := ⟨by have := h.n; omega, fun a ha => by have := va_of (h.ok a ha); exact ⟨by have := this.n; omega, by have := this.nc; omega⟩⟩
theorem uniq_key {α : Type} {f : α → Int} : ∀ {l : List α}, l.Pairwise (fun a b => f a < f b) → ∀ {a b : α}, a ∈ l → b ∈ l → f a = f b → a = b
  | [], _, _, _, h, _, _ => by simp at h
  | x :: r, hp, a, b, ha, hb, he => by
    rw [List.pairwise_cons] at hp
    rcases List.mem_cons.1 ha with ea | ha'
    · rcases List.mem_cons.1 hb with eb | hb'
      · rw [ea, eb]
      · have := hp.1 b hb'; rw [ea] at he; omega
    · rcases List.mem_cons.1 hb with eb | hb'
      · have := hp.1 a ha'; rw [eb] at he; omega
      · exact uniq_key hp.2 ha' hb' he
theorem Vd.uniq {d : GDatabase} (h : Vd d) {a b : GAdvert} (ha : a ∈ d.Adverts) (hb : b ∈ d.Adverts) (he : a.Router = b.Router) : a = b := uniq_key h.asc ha hb he
theorem Va.uniq {a : GAdvert} (h : Va a) {x y : GReach} (hx : x ∈ a.Links) (hy : y ∈ a.Links) (he : x.Neighbour = y.Neighbour) : x = y := uniq_key h.asc hx hy he

theorem find_cases (d : GDatabase) (r : Int) : (∃ a ∈ d.Adverts, a.Router = r ∧ findA d r = (a, true)) ∨ ((∀ a ∈ d.Adverts, a.Router ≠ r) ∧ findA d r = (noA, false)) := by
  unfold findA
  cases h : d.Adverts.find? (fun a => decide (a.Router = r)) with
  | some a => exact .inl ⟨a, List.mem_of_find?_eq_some h, by simpa using List.find?_some h, rfl⟩
  | none => exact .inr ⟨fun a ha => by simpa using List.find?_eq_none.1 h a ha, rfl⟩
theorem find_in {d : GDatabase} (h : Vd d) {a : GAdvert} (ha : a ∈ d.Adverts) : findA d a.Router = (a, true) := by
  rcases find_cases d a.Router with ⟨b, hb, he, hf⟩ | ⟨hn, _⟩
  · rw [hf, h.uniq hb ha he]
  · exact absurd rfl (hn a ha)
def noR : GReach := GReach.mk 0 0 0
def reachA (a : GAdvert) (n : Int) : GReach × Bool := match a.Links.find? (fun x => decide (x.Neighbour = n)) with | some x => (x, true) | none => (noR, false)
theorem reach_cases (a : GAdvert) (n : Int) : (∃ x ∈ a.Links, x.Neighbour = n ∧ reachA a n = (x, true)) ∨ ((∀ x ∈ a.Links, x.Neighbour ≠ n) ∧ reachA a n = (noR, false)) := by
  unfold reachA
  cases h : a.Links.find? (fun x => decide (x.Neighbour = n)) with
  | some x => exact .inl ⟨x, List.mem_of_find?_eq_some h, by simpa using List.find?_some h, rfl⟩
  | none => exact .inr ⟨fun x hx => by simpa using List.find?_eq_none.1 h x hx, rfl⟩
theorem db_reach (a : GAdvert) (n : Int) : m_database_reach a n = some (reachA a n) := by
  unfold m_database_reach
  rw [find_loop (fun x : GReach => decide (x.Neighbour = n)) (fun x => some (x, true)) (fun j x Z s => rfl)]
  unfold reachA
  cases a.Links.find? _ <;> rfl

/-! links -/
def LkD (d : GDatabase) (a b : Int) : Prop := ∃ x ∈ d.Adverts, ∃ y ∈ d.Adverts, x.Router = a ∧ y.Router = b ∧ (∃ p ∈ x.Links, p.Neighbour = b) ∧ ∃ q ∈ y.Links, q.Neighbour = a
theorem LkD.symm {d : GDatabase} {a b : Int} (h : LkD d a b) : LkD d b a := by
  obtain ⟨x, hx, y, hy, e1, e2, p, q⟩ := h
  exact ⟨y, hy, x, hx, e2, e1, q, p⟩
def mkL (x : GAdvert) (p : GReach) (y : GAdvert) (q : GReach) : GLink := GLink.mk x.Router y.Router p.Cost q.Cost (if q.Capacity < p.Capacity then q.Capacity else p.Capacity)
/-- the link of x to y -/
def IsLy (x y : GAdvert) (l : GLink) : Prop := ∃ p ∈ x.Links, ∃ q ∈ y.Links, x.Router < y.Router ∧ p.Neighbour = y.Router ∧ q.Neighbour = x.Router ∧ l = mkL x p y q
/-- the link over p -/
def IsLp (d : GDatabase) (x : GAdvert) (p : GReach) (l : GLink) : Prop := ∃ y ∈ d.Adverts, ∃ q ∈ y.Links, x.Router < y.Router ∧ p.Neighbour = y.Router ∧ q.Neighbour = x.Router ∧ l = mkL x p y q
inductive Rd (d : GDatabase) (at1 : Int) : Int → Prop
  | refl : Rd d at1 at1
  | step {a b : Int} (h : Rd d at1 a) (hl : LkD d a b) : Rd d at1 b
structure IsV (d : GDatabase) (at1 : Int) (T : GTopology) : Prop where
  rasc : T.Routers.Pairwise (fun a b => a.ID < b.ID)
  rmem : ∀ r, r ∈ T.Routers ↔ ∃ a ∈ d.Adverts, Rd d at1 a.Router ∧ r = GRouter.mk a.Router a.Capable
  lasc : T.Links.Pairwise (fun a b => ltL a b = true)
  lmem : ∀ l, l ∈ T.Links ↔ ∃ x ∈ d.Adverts, Rd d at1 x.Router ∧ ∃ y ∈ d.Adverts, IsLy x y l
theorem asc_unique {α : Type} {r : α → α → Prop} (hi : ∀ a, ¬ r a a) (ht : ∀ a b c, r a b → r b c → r a c) : ∀ {l m : List α}, l.Pairwise r → m.Pairwise r → (∀ x, x ∈ l ↔ x ∈ m) → l = m
  | [], [], _, _, _ => rfl
  | [], y :: m, _, _, h => by have := (h y).2 (by simp); simp at this
  | x :: l, [], _, _, h => by have := (h x).1 (by simp); simp at this
  | x :: l, y :: m, h1, h2, h => by
    rw [List.pairwise_cons] at h1 h2
    have hxy : x = y := by
      rcases List.mem_cons.1 ((h x).1 (by simp)) with e | e
      · exact e
      rcases List.mem_cons.1 ((h y).2 (by simp)) with e' | e'
      · exact e'.symm
      · exact absurd (ht _ _ _ (h1.1 y e') (h2.1 x e)) (hi x)
    subst hxy
    congr 1
    refine asc_unique hi ht h1.2 h2.2 fun z => ?_
    have := h z
    simp only [List.mem_cons] at this
    constructor
    · intro hz
      rcases this.1 (.inr hz) with q | q
      · subst q; exact absurd (h1.1 _ hz) (hi _)
      · exact q
    · intro hz
      rcases this.2 (.inr hz) with q | q
      · subst q; exact absurd (h2.1 _ hz) (hi _)
      · exact q
theorem IsV.unique {d : GDatabase} {at1 : Int} {T U : GTopology} (h1 : IsV d at1 T) (h2 : IsV d at1 U) : T = U := by
  obtain ⟨r1, l1⟩ := T
  obtain ⟨r2, l2⟩ := U
  have e1 : r1 = r2 := asc_unique (r := fun a b : GRouter => a.ID < b.ID) (fun a h => by omega) (fun a b c h h' => by omega) h1.rasc h2.rasc fun x => (h1.rmem x).trans (h2.rmem x).symm
  have e2 : l1 = l2 := asc_unique (r := fun a b : GLink => ltL a b = true) (fun a h => by simp [ltL] at h) (fun a b c h h' => ltL_trans a b c h h') h1.lasc h2.lasc fun x => (h1.lmem x).trans (h2.lmem x).symm
  rw [e1, e2]
def nilT : GTopology := GTopology.mk [] []
/-- what a View is -/
def ViewP (d : GDatabase) (at1 : Int) (T : GTopology) : Prop := (¬ ((∃ a ∈ d.Adverts, a.Router = at1) ∧ Vd d) ∧ T = nilT) ∨ (((∃ a ∈ d.Adverts, a.Router = at1) ∧ Vd d) ∧ ∃ T0, IsV d at1 T0 ∧ T = if chkT T0 = 0 then T0 else nilT)
theorem ViewP.unique {d : GDatabase} {at1 : Int} {T U : GTopology} (h1 : ViewP d at1 T) (h2 : ViewP d at1 U) : T = U := by
  rcases h1 with ⟨a, b⟩ | ⟨a, T0, b, c⟩ <;> rcases h2 with ⟨a', b'⟩ | ⟨a', U0, b', c'⟩
  · rw [b, b']
  · exact absurd a' a
  · exact absurd a a'
  · rw [c, c', b.unique b']

def rts (d : GDatabase) : List Int := d.Adverts.map (·.Router)
theorem rts_len {d : GDatabase} (h : Vd d) : (rts d).length ≤ 99 := by have := h.n; simpa [rts] using this
theorem LkD.mem {d : GDatabase} {a b : Int} (h : LkD d a b) : b ∈ rts d := by
  obtain ⟨x, hx, y, hy, e1, e2, _⟩ := h
  exact List.mem_map.2 ⟨y, hy, e2⟩

/-! ## the specification's View -/
theorem Vd.key {d : GDatabase} (h : Vd d) {a : GAdvert} {r : Int} (ha : a ∈ d.Adverts) (he : a.Router = r) : findA d r = (a, true) := by subst he; exact find_in h ha
theorem rd_stays {d : GDatabase} {at1 b : Int} {S : Int → Prop} (h : Rd d at1 b) (h0 : S at1) (hs : ∀ x, S x → ∀ y, LkD d x y → S y) : S b := by
  induction h with
  | refl => exact h0
  | step _ hl ih => exact hs _ ih _ hl
theorem nodup_app {l : List Int} {x : Int} (h : l.Nodup) (hx : x ∉ l) : (l ++ [x]).Nodup := by
  rw [List.nodup_append]
  refine ⟨h, by simp, fun a ha b hb => ?_⟩
  simp at hb; subst hb; exact fun e => hx (e ▸ ha)
theorem pw_app {α : Type} {r : α → α → Prop} {l : List α} {x : α} (h : l.Pairwise r) (hx : ∀ y ∈ l, r y x) : (l ++ [x]).Pairwise r := by
  rw [List.pairwise_append]
  exact ⟨h, by simp, fun a ha b hb => by simp at hb; subst hb; exact hx a ha⟩
/-! ## the program's View -/
theorem insF_asc {α : Type} {cf : α → α → Int} (ht : ∀ a b c, cf a b < 0 → cf b c < 0 → cf a c < 0) {x : α} : ∀ {l : List α}, (l.Pairwise fun a b => cf a b < 0) → (∀ y ∈ l, cf x y < 0 ∨ cf y x < 0) → (insF cf x l).Pairwise fun a b => cf a b < 0
  | [], _, _ => by simp [insF]
  | y :: r, h, hx => by
    rw [List.pairwise_cons] at h
    simp only [insF]
    split
    · rename_i hyx
      rw [List.pairwise_cons]
      refine ⟨fun z hz => ?_, insF_asc ht h.2 fun z hz => hx z (by simp [hz])⟩
      rcases List.mem_cons.1 ((insF_perm cf x r).mem_iff.1 hz) with rfl | hz
      · exact hyx
      · exact h.1 z hz
    · rename_i hyx
      have hxy : cf x y < 0 := by rcases hx y (by simp) with q | q; exact q; exact absurd q hyx
      rw [List.pairwise_cons]
      refine ⟨fun z hz => ?_, List.pairwise_cons.2 h⟩
      rcases List.mem_cons.1 hz with rfl | hz
      · exact hxy
      · exact ht _ _ _ hxy (h.1 z hz)
theorem isortF_asc {α : Type} {cf : α → α → Int} (ht : ∀ a b c, cf a b < 0 → cf b c < 0 → cf a c < 0) : ∀ {l : List α}, (l.Pairwise fun a b => cf a b < 0 ∨ cf b a < 0) → (isortF cf l).Pairwise fun a b => cf a b < 0
  | [], _ => by simp [isortF]
  | x :: r, h => by
    rw [List.pairwise_cons] at h
    exact insF_asc ht (isortF_asc ht h.2) fun y hy => h.1 y ((isortF_perm cf r).mem_iff.1 hy)
theorem asc_ascF {α : Type} {cf : α → α → Int} : ∀ {l : List α}, (l.Pairwise fun a b => cf a b < 0) → ascF cf l = true
  | [], _ => rfl
  | [x], _ => rfl
  | a :: b :: r, h => by
    rw [List.pairwise_cons] at h
    simp only [ascF, Bool.and_eq_true, decide_eq_true_eq]
    exact ⟨h.1 b (by simp), asc_ascF h.2⟩
theorem sortM_ok {α : Type} {ks : List (α → Int)} {l : List α} (h : l.Pairwise fun a b => lexK ks a b < 0 ∨ lexK ks b a < 0) (hl : l.length ≤ 1000000) : Ok (sortM (lexK ks) l) (fun m => m.Perm l ∧ m.Pairwise fun a b => lexK ks a b < 0) := by
  have h1 := isortF_asc (lexK_trans ks) h
  refine ⟨isortF (lexK ks) l, ?_, isortF_perm _ _, h1⟩
  unfold sortM
  have : (decide (l.length < 4611686018427387904)) = true := by simp; omega
  rw [asc_ascF h1, this]; rfl
theorem lexR (a b : GRouter) : lexK [fun x : GRouter => x.ID] a b < 0 ↔ a.ID < b.ID := by
  rw [lexK_cons]; simp [lexK]
theorem lexL (a b : GLink) : lexK [fun x : GLink => x.A, fun x : GLink => x.B] a b < 0 ↔ ltL a b = true := by
  rw [lexK_cons, lexK_cons]; simp [lexK, ltL]
/-- no link over p, where the other end does not name this one -/
theorem no_lk {d : GDatabase} {e : GAdvert} {x : GReach} (h : ¬ LkD d e.Router x.Neighbour) (he : e ∈ d.Adverts) (hx : x ∈ e.Links) (l : GLink) : ¬ IsLp d e x l := by
  rintro ⟨y, hy, q, hq, _, e5, e6, _⟩
  exact h ⟨e, he, y, hy, rfl, e5.symm, ⟨x, hx, rfl⟩, q, hq, e6⟩
theorem db_view {d : GDatabase} (hd : SmD d) (at1 : Int) : Ok (m_database_View d at1) (ViewP d at1) := by
  unfold m_database_View
  rw [db_find hd, bnd_s]
  refine Ok.jn (fun v : Bool => v = true ↔ ¬ ((∃ a ∈ d.Adverts, a.Router = at1) ∧ Vd d)) (fun v hv => ?_) fun J1 hJ1 => ?_
  · refine Ok.cs (fun h => Ok.s (.inl ⟨hv.1 h, rfl⟩)) fun h => ?_
    have hc : (∃ a ∈ d.Adverts, a.Router = at1) ∧ Vd d := Classical.byContradiction fun hn => by rw [hv.2 hn] at h; cases h
    obtain ⟨⟨a0, ha0, he0⟩, hvd⟩ := id hc
    have hat : at1 ∈ rts d := List.mem_map.2 ⟨a0, ha0, he0⟩
    have hrl := rts_len hvd
    rw [hvd.key ha0 he0]
    refine Ok.whl (fun s : List GAdvert × List GRouter × List GLink × List (Int × Bool) => ∃ P : List GAdvert, (∀ a ∈ P ++ s.1, a ∈ d.Adverts ∧ Rd d at1 a.Router) ∧ ((P ++ s.1).map (·.Router)).Nodup ∧
      (∀ r, (getI s.2.2.2 r).getD false = true ↔ r ∈ (P ++ s.1).map (·.Router)) ∧ at1 ∈ (P ++ s.1).map (·.Router) ∧ (∀ a ∈ P, ∀ b, LkD d a.Router b → b ∈ (P ++ s.1).map (·.Router)) ∧
      s.2.1 = P.map (fun a => GRouter.mk a.Router a.Capable) ∧ (∀ l, l ∈ s.2.2.1 ↔ ∃ x ∈ P, ∃ p ∈ x.Links, IsLp d x p l) ∧ s.2.2.1.Pairwise (fun a b => ¬ (a.A = b.A ∧ a.B = b.B)) ∧ s.2.2.1.length ≤ 23 * P.length)
      (fun s => 100 - s.2.1.length) ⟨[], by simp; exact ⟨ha0, by rw [he0]; exact .refl⟩, by simp, fun r => ?_, by simp [he0], by simp, rfl, by simp, by simp, by simp⟩ (by simp) ?_
    · simp only [List.nil_append, List.map_cons, List.map_nil, List.mem_singleton]
      rw [getI_set]
      simp only [getI]
      split
      · rename_i e; simp [e, he0]
      · rename_i e; simp [he0, e]
    rintro ⟨work, rs, ls, mp⟩ Z ⟨P, hP, hnd, hin, hat2, hcl, hrs, hls, hlp, hll⟩ hZ
    simp only at hP hnd hin hat2 hcl hrs hls hlp hll hZ
    have hsub : ∀ {l : List GAdvert}, (∀ a ∈ l, a ∈ d.Adverts) → (l.map (·.Router)).Nodup → l.length ≤ 99 := fun {l} h hn => by
      have := Nat.le_trans (nodup_len hn fun x hx => by obtain ⟨a, ha, rfl⟩ := List.mem_map.1 hx; exact List.mem_map.2 ⟨a, h a ha, rfl⟩ : _ ≤ (rts d).length) hrl
      simpa using this
    have hPl := hsub (fun a ha => (hP a ha).1) hnd
    simp only [List.length_append] at hPl
    have hrl2 : rs.length = P.length := by rw [hrs]; simp
    refine Ok.cs (fun hw => ?_) fun hw => ?_
    · cases work with
      | nil => simp at hw
      | cons e rest =>
      have hem := hP e (by simp)
      have hva := va_of (hvd.ok e hem.1)
      have heP : e.Router ∉ P.map (·.Router) := by
        rw [List.map_append, List.nodup_append] at hnd
        intro h; exact hnd.2.2 _ h e.Router (by simp) rfl
      have hg : elO (e :: rest) (0 : Int) = some e := by simp [elO]
      rw [hg, bnd_s, appO_ok (by simp; omega), bnd_s]
      refine Ok.forL (fun p (s : List GAdvert × List GLink × List (Int × Bool)) => ∃ new, s.1 = (e :: rest) ++ new ∧ (∀ a ∈ P ++ s.1, a ∈ d.Adverts ∧ Rd d at1 a.Router) ∧ ((P ++ s.1).map (·.Router)).Nodup ∧
        (∀ r, (getI s.2.2 r).getD false = true ↔ r ∈ (P ++ s.1).map (·.Router)) ∧ (∀ x ∈ p, LkD d e.Router x.Neighbour → x.Neighbour ∈ (P ++ s.1).map (·.Router)) ∧
        (∀ l, l ∈ s.2.1 ↔ (∃ x ∈ P, ∃ q ∈ x.Links, IsLp d x q l) ∨ ∃ q ∈ p, IsLp d e q l) ∧ s.2.1.Pairwise (fun a b => ¬ (a.A = b.A ∧ a.B = b.B)) ∧ s.2.1.length ≤ 23 * P.length + p.length)
        ?_ _ ⟨[], by simp, hP, hnd, hin, by simp, fun l => by rw [hls]; simp, hlp, by simp; omega⟩ ?_
      · rintro p x r ⟨w2, ls2, mp2⟩ Z2 hL ⟨new, hw2, kP, knd, kin, kcl, kls, klp, kll⟩ hZ2
        simp only at hw2 kP knd kin kcl kls klp kll
        have hxm : x ∈ e.Links := by rw [hL]; simp
        have hpl : p.length + 1 + r.length = e.Links.length := by rw [hL]; simp; omega
        have hn23 := hva.n
        have hw2l := hsub (fun a ha => (kP a ha).1) knd
        simp only [List.length_append] at hw2l
        refine Ok.jn (fun s : List GAdvert × List (Int × Bool) × List GLink => ∃ new, s.1 = (e :: rest) ++ new ∧ (∀ a ∈ P ++ s.1, a ∈ d.Adverts ∧ Rd d at1 a.Router) ∧ ((P ++ s.1).map (·.Router)).Nodup ∧
          (∀ r, (getI s.2.1 r).getD false = true ↔ r ∈ (P ++ s.1).map (·.Router)) ∧ (∀ y ∈ p ++ [x], LkD d e.Router y.Neighbour → y.Neighbour ∈ (P ++ s.1).map (·.Router)) ∧
          (∀ l, l ∈ s.2.2 ↔ (∃ x ∈ P, ∃ q ∈ x.Links, IsLp d x q l) ∨ ∃ q ∈ p ++ [x], IsLp d e q l) ∧ s.2.2.Pairwise (fun a b => ¬ (a.A = b.A ∧ a.B = b.B)) ∧ s.2.2.length ≤ 23 * P.length + (p ++ [x]).length)
          (fun s hs => by obtain ⟨_, _, _⟩ := s; exact hZ2 _ hs) fun J2 hJ2 => ?_
        rw [db_find hd, bnd_s, db_reach, bnd_s]
        have hskip : ¬ LkD d e.Router x.Neighbour → Ok (J2 (w2, mp2, ls2)) (ViewP d at1) := fun hno => by
          refine hJ2 _ ⟨new, hw2, kP, knd, kin, fun y hy hl => ?_, fun l => ?_, klp, by simp; omega⟩
          · rcases List.mem_append.1 hy with hy | hy
            · exact kcl y hy hl
            · simp at hy; subst hy; exact absurd hl hno
          · rw [kls]
            constructor
            · rintro (h | ⟨q, hq, h⟩)
              · exact .inl h
              · exact .inr ⟨q, by simp [hq], h⟩
            · rintro (h | ⟨q, hq, h⟩)
              · exact .inl h
              · rcases List.mem_append.1 hq with hq | hq
                · exact .inr ⟨q, hq, h⟩
                · simp at hq; subst hq; exact absurd h (no_lk hno hem.1 hxm l)
        rcases find_cases d x.Neighbour with ⟨y, hy, hyr, hf⟩ | ⟨hn, hf⟩
        · rw [hf]
          rcases reach_cases y e.Router with ⟨q, hq, hqn, hr⟩ | ⟨hn, hr⟩
          · rw [hr]
            simp only [Bool.not_true, Bool.or_self, cond_false]
            have hlk : LkD d e.Router x.Neighbour := ⟨e, hem.1, y, hy, rfl, hyr, ⟨x, hxm, rfl⟩, q, hq, hqn⟩
            have hnew : ∀ l, IsLp d e x l ↔ (e.Router < y.Router ∧ l = mkL e x y q) := fun l => by
              constructor
              · rintro ⟨y', hy', q', hq', hlt, e5, e6, rfl⟩
                have ey := hvd.uniq hy' hy (by omega)
                subst ey
                rw [(va_of (hvd.ok _ hy')).uniq hq' hq (by omega)]
                exact ⟨hlt, rfl⟩
              · rintro ⟨hlt, rfl⟩; exact ⟨y, hy, q, hq, hlt, by omega, hqn, rfl⟩
            refine Ok.jn (fun m : List GLink => (∀ l, l ∈ m ↔ (∃ x ∈ P, ∃ q ∈ x.Links, IsLp d x q l) ∨ ∃ q ∈ p ++ [x], IsLp d e q l) ∧ m.Pairwise (fun a b => ¬ (a.A = b.A ∧ a.B = b.B)) ∧ m.length ≤ 23 * P.length + (p ++ [x]).length) (fun m hm => ?_) fun J3 hJ3 => ?_
            · have hyn : y.Router = x.Neighbour := hyr
              refine Ok.cs (fun hc => ?_) fun hc => ?_
              · have hc : y.Router ∉ (P ++ w2).map (·.Router) := fun h => by
                  have := (kin y.Router).2 h; rw [this] at hc; simp at hc
                rw [appO_ok (by simp; omega), bnd_s]
                have e9 : (P ++ (w2 ++ [y])).map (·.Router) = (P ++ w2).map (·.Router) ++ [y.Router] := by simp
                refine hJ2 _ ⟨new ++ [y], by simp only [hw2]; simp, fun a ha => ?_, ?_, fun r => ?_, fun z hz hl => ?_, hm.1, hm.2.1, hm.2.2⟩
                · simp only at ha
                  rw [← List.append_assoc] at ha
                  rcases List.mem_append.1 ha with ha | ha
                  · exact kP a ha
                  · simp at ha; subst ha; exact ⟨hy, by rw [hyn]; exact .step hem.2 hlk⟩
                · simp only [e9]; exact nodup_app knd hc
                · simp only [e9]
                  rw [getI_set, List.mem_append]
                  split
                  · rename_i e; simp [e]
                  · rename_i e; rw [kin]; simp [e]
                · simp only [e9]
                  rcases List.mem_append.1 hz with hz | hz
                  · exact List.mem_append_left _ (kcl z hz hl)
                  · simp at hz; subst hz; rw [hyn]; simp
              · have hc : y.Router ∈ (P ++ w2).map (·.Router) := (kin y.Router).1 (by simpa using hc)
                refine hJ2 _ ⟨new, hw2, kP, knd, kin, fun z hz hl => ?_, hm.1, hm.2.1, hm.2.2⟩
                rcases List.mem_append.1 hz with hz | hz
                · exact kcl z hz hl
                · simp at hz; subst hz; rw [← hyn]; exact hc
            · refine Ok.cs (fun hc => ?_) fun hc => ?_
              · have hc : e.Router < y.Router := by simpa using hc
                rw [appO_ok (by simp; omega), bnd_s]
                refine hJ3 _ ⟨fun l => ?_, pw_app klp fun l hl => ?_, by simp; omega⟩
                · rw [List.mem_append, kls]
                  constructor
                  · rintro ((h | ⟨q', hq', h⟩) | h)
                    · exact .inl h
                    · exact .inr ⟨q', by simp [hq'], h⟩
                    · exact .inr ⟨x, by simp, (hnew l).2 ⟨hc, List.mem_singleton.1 h⟩⟩
                  · rintro (h | ⟨q', hq', h⟩)
                    · exact .inl (.inl h)
                    · rcases List.mem_append.1 hq' with hq' | hq'
                      · exact .inl (.inr ⟨q', hq', h⟩)
                      · simp at hq'; subst hq'; exact .inr (List.mem_singleton.2 ((hnew l).1 h).2)
                · rcases (kls l).1 hl with ⟨z, hz, _, _, y', _, q', _, _, _, _, rfl⟩ | ⟨z, hz, y', _, q', _, _, e5, _, rfl⟩
                  · intro h; exact heP (List.mem_map.2 ⟨z, hz, h.1⟩)
                  · intro h
                    have h2 : y'.Router = y.Router := h.2
                    have := hva.asc
                    rw [hL, List.pairwise_append] at this
                    have := this.2.2 z hz x (by simp)
                    omega
              · have hc : ¬ e.Router < y.Router := by simpa using hc
                refine hJ3 _ ⟨fun l => ?_, klp, by simp; omega⟩
                rw [kls]
                constructor
                · rintro (h | ⟨q', hq', h⟩)
                  · exact .inl h
                  · exact .inr ⟨q', by simp [hq'], h⟩
                · rintro (h | ⟨q', hq', h⟩)
                  · exact .inl h
                  · rcases List.mem_append.1 hq' with hq' | hq'
                    · exact .inr ⟨q', hq', h⟩
                    · simp at hq'; subst hq'; exact absurd ((hnew l).1 h).1 hc
          · rw [hr]
            simp only [Bool.not_true, Bool.not_false, Bool.or_true, cond_true]
            refine hskip ?_
            rintro ⟨x', hx', y', hy', e1, e2, _, q', hq', e3⟩
            rw [hvd.uniq hy' hy (by omega)] at hq'
            exact hn q' hq' e3
        · rw [hf]
          simp only [Bool.not_false, Bool.true_or, cond_true]
          refine hskip ?_
          rintro ⟨x', hx', y', hy', e1, e2, _⟩
          exact hn y' hy' e2
      · rintro ⟨w2, ls2, mp2⟩ ⟨new, hw2, kP, knd, kin, kcl, kls, klp, kll⟩
        simp only at hw2 kP knd kin kcl kls klp kll
        subst hw2
        have hs : sliO (e :: rest ++ new) (1 : Int) ((e :: rest ++ new).length : Int) = some (rest ++ new) := by
          unfold sliO
          rw [if_pos ⟨by omega, by simp; omega, by omega⟩, List.take_of_length_le (by omega)]
          rfl
        simp only [hs, bnd_s]
        have e8 : (P ++ [e]) ++ (rest ++ new) = P ++ (e :: rest ++ new) := by simp
        refine hZ _ ⟨P ++ [e], ?_⟩ ?_
        · simp only [e8]
          refine ⟨kP, knd, kin, ?_, fun a ha b hl => ?_, by simp [hrs], fun l => ?_, klp, by have := hva.n; simp; omega⟩
          · have : (P ++ (e :: rest ++ new)).map (·.Router) = (P ++ (e :: rest)).map (·.Router) ++ new.map (·.Router) := by simp
            rw [this]; exact List.mem_append_left _ hat2
          · rcases List.mem_append.1 ha with ha | ha
            · have : (P ++ (e :: rest ++ new)).map (·.Router) = (P ++ (e :: rest)).map (·.Router) ++ new.map (·.Router) := by simp
              rw [this]; exact List.mem_append_left _ (hcl a ha b hl)
            · simp at ha; subst ha
              obtain ⟨x', hx', y', hy', e1, e2, ⟨p', hp', e3⟩, _⟩ := id hl
              rw [hvd.uniq hx' hem.1 e1] at hp'
              have := kcl p' hp' (by rw [e3]; exact hl)
              rwa [e3] at this
          · rw [kls]
            constructor
            · rintro (⟨x', hx', h⟩ | h)
              · exact ⟨x', by simp [hx'], h⟩
              · exact ⟨e, by simp, h⟩
            · rintro ⟨x', hx', h⟩
              rcases List.mem_append.1 hx' with hx' | hx'
              · exact .inl ⟨x', hx', h⟩
              · simp at hx'; subst hx'; exact .inr h
        · simp only [List.length_append, List.length_singleton]; omega
    · have hw0 : work = [] := by cases work with | nil => rfl | cons a b => simp at hw
      subst hw0
      simp only [List.append_nil] at hP hnd hin hat2 hcl
      have hmem : ∀ x ∈ d.Adverts, (x ∈ P ↔ Rd d at1 x.Router) := fun x hx => by
        refine ⟨fun h => (hP x h).2, fun h => ?_⟩
        have := rd_stays (S := fun r => r ∈ P.map (·.Router)) h hat2 fun r hr b hl => by
          obtain ⟨a, ha, rfl⟩ := List.mem_map.1 hr
          exact hcl a ha b hl
        obtain ⟨a, ha, he⟩ := List.mem_map.1 this
        rwa [← hvd.uniq (hP a ha).1 hx he]
      have hrs2 : rs.Pairwise fun a b => lexK [fun x : GRouter => x.ID] a b < 0 ∨ lexK [fun x : GRouter => x.ID] b a < 0 := by
        rw [hrs, List.pairwise_map]
        have := hnd
        rw [List.nodup_iff_pairwise_ne, List.pairwise_map] at this
        refine this.imp fun {a b} h => ?_
        rw [lexR, lexR]; show a.Router < b.Router ∨ b.Router < a.Router; omega
      have hls2 : ls.Pairwise fun a b => lexK [fun x : GLink => x.A, fun x : GLink => x.B] a b < 0 ∨ lexK [fun x : GLink => x.A, fun x : GLink => x.B] b a < 0 := by
        refine hlp.imp fun {a b} h => ?_
        rw [lexL, lexL]; simp only [ltL, Bool.or_eq_true, Bool.and_eq_true, decide_eq_true_eq]
        omega
      refine Ok.bnd (sortM_ok hrs2 (by omega)) fun l5 h5 => ?_
      refine Ok.bnd (sortM_ok hls2 (by omega)) fun l6 h6 => ?_
      rw [top_check, bnd_s]
      have hV : IsV d at1 (GTopology.mk l5 l6) := by
        refine ⟨h5.2.imp fun h => (lexR _ _).1 h, fun r => ?_, h6.2.imp fun h => (lexL _ _).1 h, fun l => ?_⟩
        · simp only [h5.1.mem_iff, hrs, List.mem_map]
          constructor
          · rintro ⟨a, ha, rfl⟩; exact ⟨a, (hP a ha).1, (hP a ha).2, rfl⟩
          · rintro ⟨a, ha, hr, rfl⟩; exact ⟨a, (hmem a ha).2 hr, rfl⟩
        · simp only [h6.1.mem_iff, hls]
          constructor
          · rintro ⟨x, hx, p, hp, y, hy, q, hq, h⟩
            exact ⟨x, (hP x hx).1, (hP x hx).2, y, hy, p, hp, q, hq, h⟩
          · rintro ⟨x, hx, hr, y, hy, p, hp, q, hq, h⟩
            exact ⟨x, (hmem x hx).2 hr, p, hp, y, hy, q, hq, h⟩
      refine Ok.cs (fun hc => Ok.s (.inr ⟨‹_›, _, hV, ?_⟩)) fun hc => Ok.s (.inr ⟨‹_›, _, hV, ?_⟩)
      · rw [if_neg (by simpa using hc)]; rfl
      · rw [if_pos (by simpa using hc)]
  · rw [db_check, bnd_s]
    refine Ok.cs (fun hc => ?_) fun hc => ?_
    · refine hJ1 _ ⟨fun _ hh => ?_, fun _ => rfl⟩
      have := vd_iff.2 hh.2
      simp [this] at hc
    · have hc : Vd d := vd_iff.1 (by simpa using hc)
      rcases find_cases d at1 with ⟨a, ha, he, hf⟩ | ⟨hn, hf⟩
      · rw [hf]; exact hJ1 _ ⟨fun h => by simp at h, fun h => absurd ⟨⟨a, ha, he⟩, hc⟩ h⟩
      · rw [hf]
        refine hJ1 _ ⟨fun _ hh => ?_, fun _ => rfl⟩
        obtain ⟨⟨a, ha, he⟩, _⟩ := hh
        exact hn a ha he
end Go.Proofs.YtmcjffllahcclaaGreat
