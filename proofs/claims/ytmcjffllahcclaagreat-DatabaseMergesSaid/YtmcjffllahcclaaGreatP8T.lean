/- Plain: the databases that the tape gives: their sizes, and that without mistakes they are valid. No condition. -/
import Derived.Test.YtmcjffllahcclaaGreatP8A
namespace Go.Proofs.YtmcjffllahcclaaGreat
set_option linter.all false
open Go

theorem length_ok {t : GTape} (h : TapeOk t) : Ok (m_mk_Tape_Length t) (fun p => lenB p.1 = true ∧ TapeOk p.2) := by
  unfold m_mk_Tape_Length
  refine Ok.bnd (pick_ok h (by decide) (by decide)) fun p hp => Ok.s ⟨?_, hp.2⟩
  have := hp.1
  simp only [List.mem_cons, List.not_mem_nil, or_false] at this
  show lenB p.1 = true
  simp only [lenB, Bool.or_eq_true, decide_eq_true_eq]; omega
theorem adj_app {α : Type} {p : α → α → Bool} : ∀ {l : List α} {x : α}, adjB p l = true → (∀ y ∈ l, p y x = true) → adjB p (l ++ [x]) = true
  | [], _, _, _ => rfl
  | [a], x, _, h => by simp [adjB, h a (by simp)]
  | a :: b :: r, x, h, hx => by
    simp only [adjB, Bool.and_eq_true] at h
    simp only [List.cons_append, adjB, Bool.and_eq_true]
    exact ⟨h.1, adj_app h.2 fun y hy => hx y (by simp [hy])⟩
theorem all_app {α : Type} {p : α → Bool} {l : List α} {x : α} (h : l.all p = true) (hx : p x = true) : (l ++ [x]).all p = true := by simp [h, hx] 
/-- an advert of the tape -/
theorem advert_ok {t : GTape} {r n : Int} (h : TapeOk t) (hn : n ≤ 9223372036854775807) : Ok (m_mk_Tape_Advert t r n) (fun p => SmA p.1 ∧ (n = 0 → 1 ≤ r → r ≤ 99 → validB p.1 = true ∧ p.1.Router = r ∧ ∀ l ∈ p.1.Links, l.Neighbour ≤ 6) ∧ TapeOk p.2) := by
  unfold m_mk_Tape_Advert
  refine Ok.bnd (pick_ok h (by decide) (by decide)) fun p1 h1 => ?_
  have hseq : inB p1.1 1 1000000 = true := by
    have := h1.1
    simp only [List.mem_cons, List.not_mem_nil, or_false] at this
    simp only [inB, Bool.and_eq_true, decide_eq_true_eq]; omega
  refine Ok.bnd (next_ok h1.2 (by omega)) fun p2 h2 => ?_
  refine Ok.forN (fun j (s : List GReach × List Int × Int) => ((s.1.length : Int) ≤ j - 1 ∧ (1 ≤ r → s.1.all (goodR (GAdvert.mk r 0 false [] [])) = true) ∧ ascL s.1 = true ∧ (∀ x ∈ s.1, x.Neighbour < j)) ∧ TapeOk (GTape.mk s.2.1 s.2.2)) 1 7 ?_ ?_ _ _ _ rfl (by omega) (by omega) ⟨by simp [ascL, adjB], h2.2⟩
  · intro j s Z hj1 hj2 hI hZ
    obtain ⟨ls, L, At⟩ := s
    obtain ⟨⟨q1, q2, q3, q4⟩, ht⟩ := hI
    simp only at q1 q2 q3 q4
    refine Ok.jn (fun s : List Int × Int × List GReach => ((s.2.2.length : Int) ≤ j ∧ (1 ≤ r → s.2.2.all (goodR (GAdvert.mk r 0 false [] [])) = true) ∧ ascL s.2.2 = true ∧ (∀ x ∈ s.2.2, x.Neighbour < j + 1)) ∧ TapeOk (GTape.mk s.1 s.2.1)) (fun s hs => hZ _ ⟨⟨by have := hs.1.1; obtain ⟨_, _, _⟩ := s; simp only at this ⊢; omega, hs.1.2.1, hs.1.2.2⟩, hs.2⟩) fun J1 hJ1 => ?_
    have stay : ∀ L At, TapeOk (GTape.mk L At) → Ok (J1 (L, At, ls)) _ := fun L At ht => hJ1 _ ⟨⟨by show (ls.length : Int) ≤ j; omega, q2, q3, fun x hx => by have := q4 x hx; omega⟩, ht⟩
    refine Ok.jn (fun s : Bool × List Int × Int => (s.1 = true → j ≠ r) ∧ TapeOk (GTape.mk s.2.1 s.2.2)) (fun s hs => ?_) fun J2 hJ2 => ?_
    · obtain ⟨v, L2, At2⟩ := s
      refine Ok.cs (fun hv => ?_) fun _ => stay _ _ hs.2
      refine Ok.bnd (range_ok hs.2) fun p4 h4 => ?_
      refine Ok.bnd (next_ok h4.2 (by omega)) fun p5 h5 => ?_
      refine Ok.bnd (app_ok (by simp; omega)) fun l1 hl1 => ?_
      obtain ⟨hl1, hl2⟩ := hl1
      have hc := h4.1 (by omega) (by omega) (by omega)
      have hcap := h5.1
      refine hJ1 _ ⟨⟨by simp only; rw [hl2]; simp; omega, fun hr => ?_, ?_, ?_⟩, h5.2⟩
      · simp only [hl1]
        refine all_app (q2 hr) ?_
        have hne := hs.1 hv
        simp only [goodR, inB, Bool.and_eq_true, decide_eq_true_eq, Bool.not_eq_true', decide_eq_false_iff_not]
        have := hcap.2.1 (by omega)
        omega
      · simp only [hl1, ascL]
        exact adj_app q3 fun y hy => by simpa using q4 y hy
      · simp only [hl1]
        intro x hx
        rcases List.mem_append.1 hx with hx | hx
        · have := q4 x hx; omega
        · simp at hx; subst hx; show j < j + 1; omega
    · refine Ok.cs (fun hc => ?_) fun _ => hJ2 _ ⟨by simp, ht⟩
      refine Ok.bnd (next_ok ht (by omega)) fun p3 h3 => hJ2 _ ⟨fun _ => by simpa using hc, h3.2⟩
  intro j s hj1 hj2 hI
  obtain ⟨ls, L, At⟩ := s
  obtain ⟨⟨q1, q2, q3, q4⟩, ht⟩ := hI
  have hj := hj2 (by omega)
  subst hj
  simp only at q1 q2 q3 q4
  refine Ok.forN (fun k (s : List GClaim × List Int × Int) => ((s.1.length : Int) ≤ k ∧ s.1.all goodC = true ∧ ascC s.1 = true ∧ (∀ x ∈ s.1, x.Subdomain < k)) ∧ TapeOk (GTape.mk s.2.1 s.2.2)) 0 2 ?_ ?_ _ _ _ rfl (by omega) (by omega) ⟨by simp [ascC, adjB], ht⟩
  · intro k s Z hk1 hk2 hI hZ
    obtain ⟨cs, L, At⟩ := s
    obtain ⟨⟨r1, r2, r3, r4⟩, ht⟩ := hI
    simp only at r1 r2 r3 r4
    refine Ok.jn (fun s : List Int × Int × List GClaim => ((s.2.2.length : Int) ≤ k + 1 ∧ s.2.2.all goodC = true ∧ ascC s.2.2 = true ∧ (∀ x ∈ s.2.2, x.Subdomain < k + 1)) ∧ TapeOk (GTape.mk s.1 s.2.1)) (fun s hs => hZ _ ⟨hs.1, hs.2⟩) fun J3 hJ3 => ?_
    refine Ok.bnd (next_ok ht (by omega)) fun p6 h6 => ?_
    refine Ok.cs (fun _ => ?_) fun _ => hJ3 _ ⟨⟨by show (cs.length : Int) ≤ _; omega, r2, r3, fun x hx => by have := r4 x hx; omega⟩, h6.2⟩
    refine Ok.bnd (range_ok h6.2) fun p7 h7 => ?_
    refine Ok.bnd (length_ok h7.2) fun p8 h8 => ?_
    refine Ok.bnd (app_ok (by simp; omega)) fun l2 hl2 => ?_
    obtain ⟨hl1, hl2⟩ := hl2
    have hid := h7.1 (by omega) (by omega) (by omega)
    refine hJ3 _ ⟨⟨by simp only; rw [hl2]; simp; omega, ?_, ?_, ?_⟩, h8.2⟩
    · simp only [hl1]
      refine all_app r2 ?_
      simp only [goodC, inB, h8.1, Bool.and_true, Bool.and_eq_true, decide_eq_true_eq]
      omega
    · simp only [hl1, ascC]
      exact adj_app r3 fun y hy => by simpa using r4 y hy
    · simp only [hl1]
      intro x hx
      rcases List.mem_append.1 hx with hx | hx
      · have := r4 x hx; omega
      · simp at hx; subst hx; show k < k + 1; omega
  intro k s hk1 hk2 hI
  obtain ⟨cs, L, At⟩ := s
  obtain ⟨⟨r1, r2, r3, r4⟩, ht⟩ := hI
  have hk := hk2 (by omega)
  subst hk
  simp only at r1 r2 r3 r4
  refine Ok.jn (fun s : List Int × Int × Int × Int × List GReach × List GClaim => (s.2.2.2.2.1.length ≤ 100000 ∧ s.2.2.2.2.2.length ≤ 100000) ∧ (n = 0 → s.2.2 = (r, p1.1, ls, cs)) ∧ TapeOk (GTape.mk s.1 s.2.1)) (fun s hs => ?_) fun J4 hJ4 => ?_
  · obtain ⟨a1, a2, a3, a4, a5, a6⟩ := s
    refine Ok.s ⟨hs.1, fun hn hr1 hr2 => ?_, hs.2.2⟩
    have := hs.2.1 hn
    simp only [Prod.mk.injEq] at this
    obtain ⟨rfl, rfl, rfl, rfl⟩ := this
    refine ⟨?_, rfl, fun l hl => by have := q4 l hl; omega⟩
    have g1 : a5.all (goodR (GAdvert.mk a3 p1.1 (decide ((0:Int) < p2.1)) a5 a6)) = true := q2 hr1
    simp only [inB, Bool.and_eq_true, decide_eq_true_eq] at hseq
    simp only [validB, g1, q3, r2, r3, Bool.and_true, Bool.true_and, Bool.and_eq_true, decide_eq_true_eq, inB]
    omega
  refine Ok.jn (fun s : Bool × List Int × Int => (n = 0 → s.1 = false) ∧ TapeOk (GTape.mk s.2.1 s.2.2)) (fun s hs => ?_) fun J5 hJ5 => ?_
  · obtain ⟨v, L2, At2⟩ := s
    have base : ∀ L At a b (l : List GReach) (c : List GClaim), n ≠ 0 → l.length ≤ 100000 → c.length ≤ 100000 → TapeOk (GTape.mk L At) → Ok (J4 (L, At, a, b, l, c)) _ := fun L At a b l c hn h1 h2 h3 => hJ4 _ ⟨⟨h1, h2⟩, fun h => absurd h hn, h3⟩
    refine Ok.cs (fun hv => ?_) fun _ => hJ4 _ ⟨⟨by show ls.length ≤ _; omega, by show cs.length ≤ _; omega⟩, fun _ => rfl, hs.2⟩
    have hn0 : n ≠ 0 := fun e => by have := hs.1 e; simp only at hv this; rw [hv] at this; cases this
    refine Ok.bnd (next_ok hs.2 (by omega)) fun p10 h10 => ?_
    refine Ok.cs (fun _ => Ok.bnd (wild_ok h10.2) fun q hq => base _ _ _ _ _ _ hn0 (by omega) (by omega) hq) fun _ => ?_
    refine Ok.cs (fun _ => Ok.bnd (wild_ok h10.2) fun q hq => base _ _ _ _ _ _ hn0 (by omega) (by omega) hq) fun _ => ?_
    refine Ok.cs (fun _ => ?_) fun _ => ?_
    · refine Ok.bnd (pick_ok h10.2 (by simp) (by simp)) fun q1' g1 => Ok.bnd (pick_ok g1.2 (by decide) (by decide)) fun q2' g2 => Ok.bnd (pick_ok g2.2 (by decide) (by decide)) fun q3' g3 => ?_
      exact Ok.bnd (app_ok (by simp; omega)) fun l hl => base _ _ _ _ _ _ hn0 (by rw [hl.2]; simp; omega) (by omega) g3.2
    refine Ok.cs (fun _ => ?_) fun _ => ?_
    · refine Ok.bnd (pick_ok h10.2 (by decide) (by decide)) fun q1' g1 => Ok.bnd (pick_ok g1.2 (by decide) (by decide)) fun q2' g2 => Ok.bnd (pick_ok g2.2 (by decide) (by decide)) fun q3' g3 => ?_
      exact Ok.bnd (app_ok (by simp; omega)) fun l hl => base _ _ _ _ _ _ hn0 (by omega) (by rw [hl.2]; simp; omega) g3.2
    refine Ok.cs (fun _ => ?_) fun _ => ?_
    · refine Ok.forN (fun j (m : List GReach) => (m.length : Int) ≤ ls.length + (j - 30)) 30 54 ?_ ?_ _ _ _ rfl (by omega) (by omega) (by omega)
      · intro j m Z hj1 hj2 hI hZ
        exact Ok.bnd (app_ok (by simp; omega)) fun l hl => hZ _ (by rw [hl.2]; simp; omega)
      · intro j m hj1 hj2 hI
        have := hj2 (by omega)
        exact base _ _ _ _ _ _ hn0 (by omega) (by omega) h10.2
    refine Ok.cs (fun hl0 => ?_) fun _ => base _ _ _ _ _ _ hn0 (by omega) (by omega) h10.2
    refine Ok.bnd (wild_ok h10.2) fun q hq => ?_
    simp at hl0
    refine Ok.bnd (elO_ok (by omega) (by omega)) fun e he => ?_
    exact Ok.bnd (set_ok (by omega) (by omega)) fun l hl => base _ _ _ _ _ _ hn0 (by rw [hl.2]; omega) (by omega) hq
  · refine Ok.cs (fun hc => ?_) fun _ => hJ5 _ ⟨fun _ => rfl, ht⟩
    have : n ≠ 0 := by simp at hc; omega
    exact Ok.bnd (one_ok ht hn) fun q hq => hJ5 _ ⟨fun e => absurd e this, hq⟩
theorem database_ok {t : GTape} {n : Int} (h : TapeOk t) (hn : n ≤ 9223372036854775807) : Ok (m_mk_Tape_Database t n) (fun p => (SmD p.1 ∧ p.1.Adverts.length ≤ 7 ∧ (n = 0 → dbC p.1 = 0 ∧ (∀ a ∈ p.1.Adverts, a.Router ≤ 6) ∧ ∀ a ∈ p.1.Adverts, ∀ l ∈ a.Links, l.Neighbour ≤ 6) ) ∧ TapeOk p.2) := by
  unfold m_mk_Tape_Database
  refine Ok.forN (fun j (s : List GAdvert × List Int × Int) => ((s.1.length : Int) ≤ j - 1 ∧ (∀ a ∈ s.1, SmA a) ∧ s.1.all validB = true ∧ adjB (fun a b : GAdvert => decide (a.Router < b.Router)) s.1 = true ∧ (∀ a ∈ s.1, a.Router < j) ∧ ∀ a ∈ s.1, ∀ l ∈ a.Links, l.Neighbour ≤ 6) ∧ TapeOk (GTape.mk s.2.1 s.2.2)) 1 7 ?_ ?_ _ _ _ rfl (by omega) (by omega) ⟨by simp [adjB], h⟩
  · intro j s Z hj1 hj2 hI hZ
    obtain ⟨ads, L, At⟩ := s
    obtain ⟨⟨q1, q2, q3, q4, q5, q6⟩, ht⟩ := hI
    simp only at q1 q2 q3 q4 q5 q6
    refine Ok.jn (fun s : List Int × Int × List GAdvert => ((s.2.2.length : Int) ≤ j ∧ (∀ a ∈ s.2.2, SmA a) ∧ s.2.2.all validB = true ∧ adjB (fun a b : GAdvert => decide (a.Router < b.Router)) s.2.2 = true ∧ (∀ a ∈ s.2.2, a.Router < j + 1) ∧ ∀ a ∈ s.2.2, ∀ l ∈ a.Links, l.Neighbour ≤ 6) ∧ TapeOk (GTape.mk s.1 s.2.1)) (fun s hs => hZ _ ⟨⟨by have := hs.1.1; obtain ⟨_, _, _⟩ := s; simp only at this ⊢; omega, hs.1.2⟩, hs.2⟩) fun J1 hJ1 => ?_
    refine Ok.bnd (next_ok ht (by omega)) fun p1 h1 => ?_
    refine Ok.cs (fun _ => ?_) fun _ => hJ1 _ ⟨⟨by show (ads.length : Int) ≤ j; omega, q2, q3, q4, fun a ha => by have := q5 a ha; omega, q6⟩, h1.2⟩
    refine Ok.bnd (advert_ok (n := 0) h1.2 (by omega)) fun p2 h2 => ?_
    obtain ⟨g1, g2, g3⟩ := h2
    have g2 := g2 rfl (by omega) (by omega)
    refine Ok.bnd (app_ok (by simp; omega)) fun l hl => ?_
    obtain ⟨hl, hl2⟩ := hl
    refine hJ1 _ ⟨⟨by simp only; rw [hl2]; simp; omega, ?_, ?_, ?_, ?_, ?_⟩, g3⟩
    · simp only [hl]; intro a ha
      rcases List.mem_append.1 ha with ha | ha
      · exact q2 a ha
      · simp at ha; subst ha; exact g1
    · simp only [hl]; exact all_app q3 g2.1
    · simp only [hl]; exact adj_app q4 fun y hy => by have := q5 y hy; simp [g2.2.1]; omega
    · simp only [hl]; intro a ha
      rcases List.mem_append.1 ha with ha | ha
      · have := q5 a ha; omega
      · simp at ha; subst ha; rw [g2.2.1]; omega
    · simp only [hl]; intro a ha
      rcases List.mem_append.1 ha with ha | ha
      · exact q6 a ha
      · simp at ha; subst ha; exact g2.2.2
  intro j s hj1 hj2 hI
  obtain ⟨ads, L, At⟩ := s
  obtain ⟨⟨q1, q2, q3, q4, q5, q6⟩, ht⟩ := hI
  have hj := hj2 (by omega)
  subst hj
  simp only at q1 q2 q3 q4 q5 q6
  refine Ok.jn (fun s : List Int × Int × List GAdvert => (s.2.2.length ≤ 7 ∧ (∀ a ∈ s.2.2, SmA a) ∧ (n = 0 → s.2.2 = ads)) ∧ TapeOk (GTape.mk s.1 s.2.1)) (fun s hs => ?_) fun J2 hJ2 => ?_
  · obtain ⟨a1, a2, a3⟩ := s
    obtain ⟨⟨g1, g2, g3⟩, g4⟩ := hs
    simp only at g1 g2 g3
    refine Ok.s ⟨⟨⟨by show a3.length ≤ _; omega, g2⟩, g1, fun h0 => ?_⟩, g4⟩
    have := g3 h0
    subst this
    refine ⟨?_, fun a ha => by have := q5 a ha; omega, q6⟩
    have e : ¬ (99 : Int) < a3.length := by omega
    simp only [dbC, q3, ascA, q4, e, decide_false, cond_true, cond_false]
  refine Ok.jn (fun s : Bool × List Int × Int => (n = 0 → s.1 = false) ∧ TapeOk (GTape.mk s.2.1 s.2.2)) (fun s hs => ?_) fun J3 hJ3 => ?_
  · obtain ⟨v, L2, At2⟩ := s
    refine Ok.cs (fun hv => ?_) fun _ => hJ2 _ ⟨⟨by show ads.length ≤ _; omega, q2, fun _ => rfl⟩, hs.2⟩
    have hn0 : n ≠ 0 := fun e => by have := hs.1 e; simp only at hv this; rw [hv] at this; cases this
    refine Ok.bnd (pick_ok hs.2 (by decide) (by decide)) fun p4 h4 => ?_
    refine Ok.bnd (advert_ok h4.2 (by omega)) fun p5 h5 => ?_
    refine Ok.bnd (app_ok (by simp; omega)) fun l hl => ?_
    obtain ⟨hl, hl2⟩ := hl
    refine hJ2 _ ⟨⟨by simp only; rw [hl2]; simp; omega, ?_, fun e => absurd e hn0⟩, h5.2.2⟩
    simp only [hl]; intro a ha
    rcases List.mem_append.1 ha with ha | ha
    · exact q2 a ha
    · simp at ha; subst ha; exact h5.1
  · refine Ok.cs (fun hc => ?_) fun _ => hJ3 _ ⟨fun _ => rfl, ht⟩
    have : n ≠ 0 := by simp at hc; omega
    exact Ok.bnd (one_ok ht hn) fun q hq => hJ3 _ ⟨fun e => absurd e this, hq⟩
end Go.Proofs.YtmcjffllahcclaaGreat
