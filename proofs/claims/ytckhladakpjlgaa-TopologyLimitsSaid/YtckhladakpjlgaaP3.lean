/- Plain: valid topologies, what is left without a failure, and what is looked up. No condition. -/
import Derived.Test.YtckhladakpjlgaaP1
import Derived.Test.YtckhladakpjlgaaD2
import Derived.Test.YtckhladakpjlgaaD5
namespace Go.Proofs.Ytckhladakpjlgaa
set_option linter.all false
open Go

/-! ## lists -/
theorem any_dec {α : Type} [DecidableEq α] {l : List α} {v : α} : l.any (fun x => decide (x = v)) = decide (v ∈ l) := by
  rw [Bool.eq_iff_iff]; simp
theorem has_int (l : List Int) (n : Int) : m_ref04_Has l n = some (decide (n ∈ l)) := by
  unfold m_ref04_Has
  refine (any_loop (fun x : Int => decide (x = n)) (some true) ?_ _ _ _).trans ?_
  · intros; rfl
  · rw [any_dec]; cases decide (n ∈ l) <;> rfl
theorem con_int (l : List Int) (n : Int) : m_slices_Contains_Lint_int l n = some (decide (n ∈ l)) := by
  unfold m_slices_Contains_Lint_int m_slices_Index_Lint_int
  obtain ⟨r, h1, h2⟩ := idx_loop (B := fun (j1 : Int) (e1 : Int) (Z1 : Unit → Option Int) (sg : Unit) => match sg with | () => bif decide (n = e1) then some (j1 : Int) else Z1 ()) (K := fun (sg : Unit) => match sg with | () => some (-1:Int)) (fun x => decide (n = x)) (fun j x Z s => rfl) (fun _ => rfl) l 0 ()
  simp only [h1, bnd_s, h2]
  congr 1
  rw [Bool.eq_iff_iff]; simp
theorem ints_self (l : List Int) : m_ref04_Ints l l = some true := by
  unfold m_ref04_Ints
  simp only [decide_true, Bool.not_true, cond_false]
  refine forI_pre (L := l) (f := fun _ _ _ => some true) ?_ ?_ l [] () rfl
  · intros; rfl
  · intro p x r s Z h hZ
    subst h
    simp only [elO_at, bnd_s, decide_true, Bool.not_true, cond_false, hZ]
theorem ints_eq {a b : List Int} (h : a = b) : m_ref04_Ints a b = some true := by subst h; exact ints_self a
theorem ints_tot (a b : List Int) : ∃ r, m_ref04_Ints a b = some r := by
  by_cases hl : a.length = b.length
  · have : Ok (m_ref04_Ints a b) (fun _ => True) := by
      unfold m_ref04_Ints
      refine Ok.cs (fun _ => Ok.s trivial) fun _ => ?_
      refine Ok.forM (fun _ _ => True) ?_ _ trivial fun _ _ => Ok.s trivial
      intro j x s Z hj hx _ hZ
      exact Ok.bnd (elO_ok (by omega) (by omega)) fun e _ => Ok.cs (fun _ => Ok.s trivial) fun _ => hZ _ trivial
    obtain ⟨r, h, _⟩ := this
    exact ⟨r, h⟩
  · refine ⟨false, ?_⟩
    unfold m_ref04_Ints
    have : decide ((a.length : Int) = (b.length : Int)) = false := by simp; omega
    rw [this]; rfl
theorem eqGHop_iff (a b : GHop) : eqGHop a b = true ↔ a = b := by
  cases a; cases b; simp [eqGHop]
theorem eqGRouter_self (a : GRouter) : eqGRouter a a = true := by simp [eqGRouter]
theorem eqGLink_self (a : GLink) : eqGLink a a = true := by simp [eqGLink]
def hopB (l : List GHop) (a b : Int) : Bool := l.any fun h => eqGHop (GHop.mk a b) h
theorem con_hop (l : List GHop) (v : GHop) : m_slices_Contains_Lapi_Hop_api_Hop l v = some (l.any (eqGHop v)) := by
  unfold m_slices_Contains_Lapi_Hop_api_Hop m_slices_Index_Lapi_Hop_api_Hop
  obtain ⟨r, h1, h2⟩ := idx_loop (B := fun (j1 : Int) (e1 : GHop) (Z1 : Unit → Option Int) (sg : Unit) => match sg with | () => bif eqGHop v e1 then some (j1 : Int) else Z1 ()) (K := fun (sg : Unit) => match sg with | () => some (-1:Int)) (fun x => eqGHop v x) (fun j x Z s => rfl) (fun _ => rfl) l 0 ()
  simp only [h1, bnd_s, h2]
theorem ref_named (l : List GHop) (a b : Int) : m_ref05_Named l a b = some (hopB l a b || hopB l b a) := by
  unfold m_ref05_Named
  refine (any_loop (fun h : GHop => eqGHop (GHop.mk a b) h || eqGHop (GHop.mk b a) h) (some true) ?_ _ _ _).trans ?_
  · intro j x Z s
    congr 1
    rw [Bool.eq_iff_iff]
    obtain ⟨f, t⟩ := x
    simp [eqGHop]
    constructor
    · split
      · rintro (h | h) <;> omega
      · intro h; omega
    · rintro (h | h)
      · rw [if_pos (by omega)]; omega
      · split <;> omega
  · have : (l.any fun h : GHop => eqGHop (GHop.mk a b) h || eqGHop (GHop.mk b a) h) = (hopB l a b || hopB l b a) := by
      rw [Bool.eq_iff_iff]; simp [hopB, List.any_eq_true]
      constructor
      · rintro ⟨x, hx, h | h⟩
        · exact .inl ⟨x, hx, h⟩
        · exact .inr ⟨x, hx, h⟩
      · rintro (⟨x, hx, h⟩ | ⟨x, hx, h⟩)
        · exact ⟨x, hx, .inl h⟩
        · exact ⟨x, hx, .inr h⟩
    rw [this]; cases (hopB l a b || hopB l b a) <;> rfl
/-- a loop that keeps some -/
theorem filt_loop {α γ β : Type} {B : Int → α → (List γ → Option β) → List γ → Option β} {K : List γ → Option β} (p : α → Bool) (f : α → γ) :
    ∀ (l : List α) (j : Nat) (s : List γ), (∀ (j : Nat) x Z s, x ∈ l → s.length < 1000000 → B j x Z s = bif p x then Z (s ++ [f x]) else Z s) → l.length + s.length ≤ 1000000 → forI l j B K s = K (s ++ (l.filter p).map f)
  | [], j, s, _, _ => by simp [forI]
  | x :: r, j, s, hB, h => by
    simp only [List.length_cons] at h
    simp only [forI]
    rw [hB j x _ s (by simp) (by omega)]
    have hB' : ∀ (j : Nat) y Z s, y ∈ r → s.length < 1000000 → B j y Z s = bif p y then Z (s ++ [f y]) else Z s := fun j y Z s hy => hB j y Z s (by simp [hy])
    cases hp : p x
    · rw [cond_false, filt_loop p f r (j + 1) s hB' (by omega), List.filter_cons_of_neg (by simp [hp])]
    · rw [cond_true, filt_loop p f r (j + 1) (s ++ [f x]) hB' (by simp; omega), List.filter_cons_of_pos hp]
      simp
theorem app1 {α : Type} {s : List α} {x : α} (h : s.length < 1000000) : appO s [x] = some (s ++ [x]) := appO_ok (by simp; omega)
/-- strictly ascending lists with the same members are the same -/
theorem lt_unique {a b : List Int} (ha : a.Pairwise (· < ·)) (hb : b.Pairwise (· < ·)) (h : ∀ x, x ∈ a ↔ x ∈ b) : a = b := by
  induction a generalizing b with
  | nil =>
    cases b with
    | nil => rfl
    | cons y b => exact absurd ((h y).2 (by simp)) (by simp)
  | cons x a ih =>
    cases b with
    | nil => exact absurd ((h x).1 (by simp)) (by simp)
    | cons y b =>
      rw [List.pairwise_cons] at ha hb
      have hxy : x = y := by
        have h1 := (h x).1 (by simp)
        have h2 := (h y).2 (by simp)
        rw [List.mem_cons] at h1 h2
        rcases h1 with h1 | h1
        · exact h1
        · rcases h2 with h2 | h2
          · exact h2.symm
          · have := hb.1 _ h1; have := ha.1 _ h2; omega
      subst hxy
      congr 1
      refine ih ha.2 hb.2 fun z => ?_
      have := h z
      simp only [List.mem_cons] at this
      constructor
      · intro hz
        rcases this.1 (.inr hz) with q | q
        · subst q; have := ha.1 _ hz; omega
        · exact q
      · intro hz
        rcases this.2 (.inr hz) with q | q
        · subst q; have := hb.1 _ hz; omega
        · exact q
theorem sortI_lt {l : List Int} (h : l.Nodup) : (sortI l).Pairwise (· < ·) := by
  have h1 := sortI_sorted l
  have h2 : (sortI l).Nodup := (sortI_perm l).nodup_iff.2 h
  have := h1.and h2
  exact this.imp (fun ⟨a, b⟩ => by omega)
theorem sortI_mem {l : List Int} {x : Int} : x ∈ sortI l ↔ x ∈ l := (sortI_perm l).mem_iff

/-! ## valid topologies -/
structure Vt (t : GTopology) : Prop where
  nr : t.Routers.length ≤ 24
  nl : t.Links.length ≤ 60
  idr : ∀ r ∈ t.Routers, 1 ≤ r.ID ∧ r.ID ≤ 99
  asc : t.Routers.Pairwise (fun a b => a.ID < b.ID)
  okl : ∀ l ∈ t.Links, badL l = false
  ends : ∀ l ∈ t.Links, hasB t l.A = true ∧ hasB t l.B = true
  lt : ∀ l ∈ t.Links, l.A < l.B
  ascl : t.Links.Pairwise (fun a b => ltL a b = true)
theorem ltL_trans (a b c : GLink) (h1 : ltL a b = true) (h2 : ltL b c = true) : ltL a c = true := by
  simp [ltL] at *; omega
theorem any_false {α : Type} {l : List α} {p : α → Bool} : l.any p = false ↔ ∀ x ∈ l, p x = false := by
  rw [List.any_eq_false]; simp
theorem vt_iff {t : GTopology} : chkT t = 0 ↔ Vt t := by
  unfold chkT
  constructor
  · intro h
    by_cases h1 : (decide (24 < (t.Routers.length : Int)) || decide (60 < (t.Links.length : Int))) = true
    · rw [h1] at h; cases h
    simp only [Bool.not_eq_true] at h1
    rw [h1, cond_false] at h
    cases h2 : kA t <;> rw [h2] at h <;> first | cases h; done | skip
    cases h3 : kB t <;> rw [h3] at h <;> first | cases h; done | skip
    cases h4 : kC t <;> rw [h4] at h <;> first | cases h; done | skip
    cases h5 : kD t <;> rw [h5] at h <;> first | cases h; done | skip
    cases h6 : kE t <;> rw [h6] at h <;> first | cases h; done | skip
    cases h7 : kF t <;> rw [h7] at h <;> first | cases h; done | skip
    simp only [Bool.or_eq_false_iff, decide_eq_false_iff_not] at h1
    refine ⟨by omega, by omega, fun r hr => ?_, asc_rs h3, any_false.1 h4, fun l hl => ?_, fun l hl => ?_, adj_pairwise ltL_trans h7⟩
    · have := any_false.1 h2 r hr; simp [badR] at this; omega
    · have := any_false.1 h5 l hl; simpa using this
    · have := any_false.1 h6 l hl; simpa using this
  · intro h
    have h1 : (decide (24 < (t.Routers.length : Int)) || decide (60 < (t.Links.length : Int))) = false := by
      have := h.nr; have := h.nl; simp; omega
    have h2 : kA t = false := any_false.2 fun r hr => by have := h.idr r hr; simp [badR]; omega
    have h3 : kB t = true := pairwise_adj (h.asc.imp fun h => by simpa using h)
    have h4 : kC t = false := any_false.2 h.okl
    have h5 : kD t = false := any_false.2 fun l hl => by have := h.ends l hl; simp [this]
    have h6 : kE t = false := any_false.2 fun l hl => by have := h.lt l hl; simp; omega
    have h7 : kF t = true := pairwise_adj h.ascl
    rw [h1, h2, h3, h4, h5, h6, h7]; rfl
theorem top_valid (t : GTopology) : m_topology_valid t = some (decide (chkT t = 0)) := by
  unfold m_topology_valid; rw [top_check]; rfl
theorem hasB_iff {t : GTopology} {r : Int} : hasB t r = true ↔ ∃ x ∈ t.Routers, x.ID = r := by simp [hasB]
theorem nil_valid : chkT (GTopology.mk [] []) = 0 := rfl

/-! ## without -/
def goneB (f : GFailure) (l : GLink) : Bool := decide (l.A ∈ f.Routers) || decide (l.B ∈ f.Routers) || hopB f.Links l.A l.B || hopB f.Links l.B l.A
def woT (t : GTopology) (f : GFailure) : GTopology := GTopology.mk (t.Routers.filter fun r => !decide (r.ID ∈ f.Routers)) (t.Links.filter fun l => !goneB f l)
theorem Vt.wo {t : GTopology} (h : Vt t) (f : GFailure) : Vt (woT t f) := by
  have sr : (woT t f).Routers.Sublist t.Routers := List.filter_sublist
  have sl : (woT t f).Links.Sublist t.Links := List.filter_sublist
  refine ⟨Nat.le_trans sr.length_le h.nr, Nat.le_trans sl.length_le h.nl, fun r hr => h.idr r (sr.subset hr), h.asc.sublist sr, fun l hl => h.okl l (sl.subset hl), fun l hl => ?_, fun l hl => h.lt l (sl.subset hl), h.ascl.sublist sl⟩
  have hm := List.mem_filter.1 hl
  have he := h.ends l hm.1
  have hg := hm.2
  simp [goneB] at hg
  rw [hasB_iff, hasB_iff] at he ⊢
  obtain ⟨⟨x, hx, ex⟩, ⟨y, hy, ey⟩⟩ := he
  refine ⟨⟨x, List.mem_filter.2 ⟨hx, ?_⟩, ex⟩, ⟨y, List.mem_filter.2 ⟨hy, ?_⟩, ey⟩⟩
  · rw [ex]; simp [hg]
  · rw [ey]; simp [hg]
def withoutT (t : GTopology) (f : GFailure) : GTopology := if chkT t = 0 then woT t f else GTopology.mk [] []
theorem withoutT_valid (t : GTopology) (f : GFailure) : Vt (withoutT t f) := by
  unfold withoutT
  split
  · rename_i h; exact (vt_iff.1 h).wo f
  · exact vt_iff.1 nil_valid
theorem ref_without (t : GTopology) (f : GFailure) : m_ref05_Without t f = some (withoutT t f) := by
  unfold m_ref05_Without withoutT
  simp only [ref_check, bnd_s]
  by_cases h : chkT t = 0
  · have hv := vt_iff.1 h
    have := hv.nr; have := hv.nl
    simp only [h, decide_true, Bool.not_true, cond_false, if_true]
    refine (filt_loop (fun r : GRouter => !decide (r.ID ∈ f.Routers)) id _ _ _ ?_ (by simp; omega)).trans ?_
    · intro j x Z s _ hs
      simp only [jn, has_int, bnd_s, app1 hs]; rfl
    refine (filt_loop (fun l : GLink => !goneB f l) id _ _ _ ?_ (by simp; omega)).trans ?_
    · intro j x Z s _ hs
      simp only [jn, has_int, ref_named, bnd_s, app1 hs, goneB, id]
      cases decide (x.A ∈ f.Routers) <;> cases decide (x.B ∈ f.Routers) <;> cases hopB f.Links x.A x.B <;> cases hopB f.Links x.B x.A <;> rfl
    · simp [woT]
  · simp [h]
theorem top_without (t : GTopology) (f : GFailure) : m_topology_Without t f = some (withoutT t f) := by
  unfold m_topology_Without withoutT
  simp only [top_valid, bnd_s]
  by_cases h : chkT t = 0
  · have hv := vt_iff.1 h
    have := hv.nr; have := hv.nl
    simp only [h, decide_true, Bool.not_true, cond_false, if_true]
    refine (filt_loop (fun r : GRouter => !decide (r.ID ∈ f.Routers)) id _ _ _ ?_ (by simp; omega)).trans ?_
    · intro j x Z s _ hs
      simp only [jn, con_int, bnd_s, app1 hs]; rfl
    refine (filt_loop (fun l : GLink => !goneB f l) id _ _ _ ?_ (by simp; omega)).trans ?_
    · intro j x Z s _ hs
      have e1 : f.Links.any (eqGHop (GHop.mk x.A x.B)) = hopB f.Links x.A x.B := rfl
      have e2 : f.Links.any (eqGHop (GHop.mk x.B x.A)) = hopB f.Links x.B x.A := rfl
      simp only [jn, con_int, con_hop, bnd_s, app1 hs, goneB, id, e1, e2]
      cases decide (x.A ∈ f.Routers) <;> cases decide (x.B ∈ f.Routers) <;> cases hopB f.Links x.A x.B <;> cases hopB f.Links x.B x.A <;> rfl
    · simp [woT]
  · simp [h]
theorem same_self (t : GTopology) : m_ref05_Same t t = some true := by
  unfold m_ref05_Same
  simp only [decide_true, Bool.not_true, Bool.or_false, cond_false]
  refine forI_pre (L := t.Routers) (f := fun _ _ _ => some true) ?_ ?_ t.Routers [] () rfl
  · intro s
    refine forI_pre (L := t.Links) (f := fun _ _ _ => some true) ?_ ?_ t.Links [] () rfl
    · intros; rfl
    · intro p x r s Z h hZ
      simp only [← h, elO_at, bnd_s, eqGLink_self, Bool.not_true, cond_false, hZ]
  · intro p x r s Z h hZ
    simp only [← h, elO_at, bnd_s, eqGRouter_self, Bool.not_true, cond_false, hZ]

/-! ## has, capable, cost -/
def findT (t : GTopology) (r : Int) : GRouter × Bool := if bsT (fun x : GRouter => cmpI x.ID r) t.Routers then (el t.Routers (bsR (fun x : GRouter => cmpI x.ID r) t.Routers), true) else (GRouter.mk 0 false, false)
theorem top_find (t : GTopology) (r : Int) (hl : t.Routers.length ≤ 1000000) : m_topology_find t r = some (findT t r) := by
  unfold m_topology_find findT
  rw [bsRt t.Routers r _ (fun x => cmpI x.ID r) hl (fun x => top_byID x r)]
  simp only [bnd_s]
  cases h : bsT (fun x : GRouter => cmpI x.ID r) t.Routers
  · rfl
  · have h2 : bsR (fun x : GRouter => cmpI x.ID r) t.Routers < t.Routers.length := by
      simp only [bsT, Bool.and_eq_true, decide_eq_true_eq] at h; exact h.1
    simp only [Bool.not_true, cond_false, elO_el h2, bnd_s, if_true]
theorem bsT_has {t : GTopology} (h : Vt t) (r : Int) : bsT (fun x : GRouter => cmpI x.ID r) t.Routers = hasB t r := by
  have := unkB_eq (t := t) (pairwise_adj (h.asc.imp fun h => by simpa using h)) r
  simpa [unkB] using this
theorem top_Has (t : GTopology) (r : Int) (hl : t.Routers.length ≤ 1000000) : m_topology_Has t r = some (decide (chkT t = 0) && hasB t r) := by
  unfold m_topology_Has
  simp only [top_find t r hl, top_valid, bnd_s]
  by_cases h : chkT t = 0
  · simp only [h, decide_true, cond_true, Bool.true_and, findT, bsT_has (vt_iff.1 h)]
    cases hasB t r <;> rfl
  · simp [h]
theorem find_eq {t : GTopology} (h : Vt t) {x : GRouter} (hx : x ∈ t.Routers) : findT t x.ID = (x, true) := by
  unfold findT
  have h1 : hasB t x.ID = true := hasB_iff.2 ⟨x, hx, rfl⟩
  have h2 := bsT_has h x.ID
  rw [h1] at h2
  rw [if_pos h2]
  simp only [bsT, Bool.and_eq_true, decide_eq_true_eq] at h2
  obtain ⟨q1, q2⟩ := h2
  rw [cmpI_eq] at q2
  have hm := el_mem q1
  have hu : ∀ a ∈ t.Routers, ∀ b ∈ t.Routers, a.ID = b.ID → a = b := by
    intro a ha b hb hab
    obtain ⟨i, hi, rfl⟩ := List.getElem_of_mem ha
    obtain ⟨j, hj, rfl⟩ := List.getElem_of_mem hb
    have := List.pairwise_iff_getElem.1 h.asc
    rcases Nat.lt_trichotomy i j with q | q | q
    · have := this i j hi hj q; omega
    · subst q; rfl
    · have := this j i hj hi q; omega
  rw [hu _ hm _ hx q2]
/-- the first that does -/
theorem find_loop {α σ β : Type} {B : Int → α → (σ → Option β) → σ → Option β} {K : σ → Option β} (p : α → Bool) (g : α → Option β) (hB : ∀ j x Z s, B j x Z s = bif p x then g x else Z s) (l : List α) (j : Nat) (s : σ) :
    forI l j B K s = match l.find? p with | some x => g x | none => K s :=
  forI_eq (f := fun l s => match l.find? p with | some x => g x | none => K s) (fun s => rfl) (fun j x r s Z hZ => by
    rw [hB, hZ, List.find?_cons]; cases p x <;> rfl) l j s
theorem uniq_r {t : GTopology} (h : Vt t) {a b : GRouter} (ha : a ∈ t.Routers) (hb : b ∈ t.Routers) (hab : a.ID = b.ID) : a = b := by
  obtain ⟨i, hi, rfl⟩ := List.getElem_of_mem ha
  obtain ⟨j, hj, rfl⟩ := List.getElem_of_mem hb
  have := List.pairwise_iff_getElem.1 h.asc
  rcases Nat.lt_trichotomy i j with q | q | q
  · have := this i j hi hj q; omega
  · subst q; rfl
  · have := this j i hj hi q; omega
theorem uniq_l {t : GTopology} (h : Vt t) {a b : GLink} (ha : a ∈ t.Links) (hb : b ∈ t.Links) (hA : a.A = b.A) (hB : a.B = b.B) : a = b := by
  obtain ⟨i, hi, rfl⟩ := List.getElem_of_mem ha
  obtain ⟨j, hj, rfl⟩ := List.getElem_of_mem hb
  have := List.pairwise_iff_getElem.1 h.ascl
  rcases Nat.lt_trichotomy i j with q | q | q
  · have := this i j hi hj q; simp [ltL] at this; omega
  · subst q; rfl
  · have := this j i hj hi q; simp [ltL] at this; omega
theorem find_no {t : GTopology} (h : Vt t) {r : Int} (hh : hasB t r = false) : findT t r = (GRouter.mk 0 false, false) := by
  unfold findT
  rw [bsT_has h, hh]; rfl
def eitherB (l : GLink) (a b : Int) : Bool := (decide (l.A = a) && decide (l.B = b)) || (decide (l.B = a) && decide (l.A = b))
def priceOf (a b : Int) (l : GLink) : Int × Bool := (bif decide (l.A = a) && decide (l.B = b) then l.CostA else l.CostB, true)
def priceT (t : GTopology) (a b : Int) : Int × Bool := match t.Links.find? (fun l => eitherB l a b) with | some l => priceOf a b l | none => (0, false)
def adjT (t : GTopology) (a b : Int) : Bool := t.Links.any fun l => eitherB l a b
theorem ref_price (t : GTopology) (a b : Int) : m_ref05_Price t a b = some (priceT t a b) := by
  unfold m_ref05_Price priceT
  refine (find_loop (fun l : GLink => eitherB l a b) (fun l => some (priceOf a b l)) (fun j x Z s => ?_) _ _ _).trans ?_
  · unfold eitherB priceOf
    cases decide (x.A = a) && decide (x.B = b) <;> cases decide (x.B = a) && decide (x.A = b) <;> rfl
  · cases t.Links.find? _ <;> rfl
theorem price_adj (t : GTopology) (a b : Int) : (priceT t a b).2 = adjT t a b := by
  unfold priceT adjT
  cases hf : t.Links.find? (fun l => eitherB l a b) with
  | none => symm; exact any_false.2 fun x hx => by simpa using List.find?_eq_none.1 hf x hx
  | some x =>
    symm
    exact List.any_eq_true.2 ⟨x, List.mem_of_find?_eq_some hf, by simpa using List.find?_some hf⟩
theorem price_eq {t : GTopology} (h : Vt t) {a b : Int} {l : GLink} (hm : l ∈ t.Links) (he : eitherB l a b = true) : priceT t a b = priceOf a b l := by
  unfold priceT
  cases hf : t.Links.find? (fun l => eitherB l a b) with
  | none => exact absurd he (List.find?_eq_none.1 hf l hm)
  | some x =>
    have hx := List.mem_of_find?_eq_some hf
    have hp := List.find?_some hf
    have h1 := h.lt _ hm
    have h2 := h.lt _ hx
    simp [eitherB] at he hp
    rw [uniq_l h hx hm (by omega) (by omega)]
theorem mono_ls {t : GTopology} (h : Vt t) (v : GLink) : ∀ a b : Nat, a ≤ b → b < t.Links.length → cmpL (el t.Links a) v ≤ cmpL (el t.Links b) v := by
  refine mono_of_pairwise (f := fun l : GLink => cmpL l v) (h.ascl.imp fun {a b} hab => ?_)
  have c3 : ∀ x y : Int, cmpI x y = -1 ∨ cmpI x y = 0 ∨ cmpI x y = 1 := fun x y => by
    unfold cmpI; split
    · exact .inl rfl
    · split
      · exact .inr (.inr rfl)
      · exact .inr (.inl rfl)
  have : ∀ x y : GLink, cmpL x y = -1 ∨ cmpL x y = 0 ∨ cmpL x y = 1 := fun x y => by
    have q1 := c3 x.A y.A
    have q2 := c3 x.B y.B
    simp only [cmpL, orI]
    generalize cmpI x.A y.A = p at *
    generalize cmpI x.B y.B = q at *
    by_cases h1 : p = 0
    · by_cases h2 : q = 0 <;> simp [h1, h2]; omega
    · simp [h1]; omega
  have h1 := @cmpL_lt a v
  have h2 := @cmpL_lt b v
  have h3 := @cmpL_eq a v
  have h4 := @cmpL_eq b v
  have q1 := this a v
  have q2 := this b v
  simp [ltL] at hab h1 h2
  omega
/-! ## neighbours -/
def ids (t : GTopology) : List Int := t.Routers.map (·.ID)
theorem ids_lt {t : GTopology} (h : Vt t) : (ids t).Pairwise (· < ·) := List.pairwise_map.2 h.asc
theorem ids_has {t : GTopology} {r : Int} : r ∈ ids t ↔ hasB t r = true := by rw [hasB_iff]; simp [ids]
theorem adj_iff {t : GTopology} {a b : Int} : adjT t a b = true ↔ ∃ l ∈ t.Links, (l.A = a ∧ l.B = b) ∨ (l.B = a ∧ l.A = b) := by
  simp [adjT, eitherB]
theorem adj_symm {t : GTopology} {a b : Int} (h : adjT t a b = true) : adjT t b a = true := by
  rw [adj_iff] at h ⊢
  obtain ⟨l, hl, h⟩ := h
  exact ⟨l, hl, by omega⟩
theorem adj_ne {t : GTopology} (hv : Vt t) {a b : Int} (h : adjT t a b = true) : a ≠ b := by
  rw [adj_iff] at h
  obtain ⟨l, hl, h⟩ := h
  have := hv.lt l hl
  omega
theorem adj_ids {t : GTopology} (hv : Vt t) {a b : Int} (h : adjT t a b = true) : b ∈ ids t := by
  rw [adj_iff] at h
  obtain ⟨l, hl, h⟩ := h
  have := hv.ends l hl
  rcases h with ⟨h1, h2⟩ | ⟨h1, h2⟩ <;> rw [ids_has, ← h2]
  · exact this.2
  · exact this.1
def nearL (t : GTopology) (r : Int) : List Int := (ids t).filter fun x => adjT t r x
theorem nearL_lt {t : GTopology} (hv : Vt t) (r : Int) : (nearL t r).Pairwise (· < ·) := (ids_lt hv).sublist List.filter_sublist
theorem nearL_mem {t : GTopology} (hv : Vt t) {r x : Int} : x ∈ nearL t r ↔ adjT t r x = true := by
  unfold nearL; rw [List.mem_filter]
  exact ⟨fun h => h.2, fun h => ⟨adj_ids hv h, h⟩⟩
/-- the other end of each link of a router -/
def otherE (r : Int) (l : GLink) : Option Int := if r = l.A then some l.B else if r = l.B then some l.A else none
theorem fmap_loop {α γ β : Type} {B : Int → α → (List γ → Option β) → List γ → Option β} {K : List γ → Option β} (f : α → Option γ) :
    ∀ (l : List α) (j : Nat) (s : List γ), (∀ (j : Nat) x Z s, x ∈ l → s.length < 1000000 → B j x Z s = match f x with | some y => Z (s ++ [y]) | none => Z s) → l.length + s.length ≤ 1000000 → forI l j B K s = K (s ++ l.filterMap f)
  | [], j, s, _, _ => by simp [forI]
  | x :: r, j, s, hB, h => by
    simp only [List.length_cons] at h
    simp only [forI]
    rw [hB j x _ s (by simp) (by omega)]
    have hB' : ∀ (j : Nat) y Z s, y ∈ r → s.length < 1000000 → B j y Z s = match f y with | some y => Z (s ++ [y]) | none => Z s := fun j y Z s hy => hB j y Z s (by simp [hy])
    cases hp : f x with
    | none => simp only; rw [fmap_loop f r (j + 1) s hB' (by omega), List.filterMap_cons_none hp]
    | some y => simp only; rw [fmap_loop f r (j + 1) (s ++ [y]) hB' (by simp; omega), List.filterMap_cons_some hp]; simp
theorem other_nodup {t : GTopology} (hv : Vt t) (r : Int) : (t.Links.filterMap (otherE r)).Nodup := by
  have key : ∀ l : List GLink, (∀ x ∈ l, x.A < x.B) → l.Pairwise (fun a b => ltL a b = true) → (l.filterMap (otherE r)).Nodup := by
    intro l
    induction l with
    | nil => intros; simp
    | cons x l ih =>
      intro h1 h2
      rw [List.pairwise_cons] at h2
      have ih := ih (fun y hy => h1 y (by simp [hy])) h2.2
      cases hx : otherE r x with
      | none => rw [List.filterMap_cons_none hx]; exact ih
      | some y =>
        rw [List.filterMap_cons_some hx, List.nodup_cons]
        refine ⟨fun hm => ?_, ih⟩
        obtain ⟨z, hz, hzy⟩ := List.mem_filterMap.1 hm
        have h3 := h2.1 z hz
        have h4 := h1 x (by simp)
        have h5 := h1 z (by simp [hz])
        unfold otherE at hx hzy
        simp [ltL] at h3
        split at hx <;> split at hzy <;> (try split at hx) <;> (try split at hzy) <;> simp at hx hzy <;> omega
  exact key _ hv.lt hv.ascl
theorem other_mem {t : GTopology} {r x : Int} (hv : Vt t) : x ∈ t.Links.filterMap (otherE r) ↔ adjT t r x = true := by
  rw [List.mem_filterMap, adj_iff]
  constructor
  · rintro ⟨l, hl, h⟩
    unfold otherE at h
    refine ⟨l, hl, ?_⟩
    split at h
    · simp at h; omega
    · split at h
      · simp at h; omega
      · cases h
  · rintro ⟨l, hl, h⟩
    refine ⟨l, hl, ?_⟩
    have := hv.lt l hl
    unfold otherE
    rcases h with h | h
    · rw [if_pos (by omega), h.2]
    · rw [if_neg (by omega), if_pos (by omega), h.2]
theorem top_near {t : GTopology} (hv : Vt t) (r : Int) : m_topology_neighbours t r = some (nearL t r) := by
  unfold m_topology_neighbours
  have := hv.nl
  refine (fmap_loop (otherE r) _ _ _ ?_ (by simp; omega)).trans ?_
  · intro j x Z s _ hs
    simp only [jn, app1 hs, bnd_s, otherE]
    by_cases h1 : r = x.A
    · simp [h1]
    · by_cases h2 : r = x.B <;> simp [h1, h2]
      simp [← h2, h1]
  · have hlen : (t.Links.filterMap (otherE r)).length ≤ 60 := Nat.le_trans (List.length_filterMap_le _ _) (by omega)
    simp only [List.nil_append]
    rw [chk_t (by simp; omega)]
    congr 1
    refine lt_unique (sortI_lt (other_nodup hv r)) (nearL_lt hv r) fun x => ?_
    rw [sortI_mem, other_mem hv, nearL_mem hv]
end Go.Proofs.Ytckhladakpjlgaa
