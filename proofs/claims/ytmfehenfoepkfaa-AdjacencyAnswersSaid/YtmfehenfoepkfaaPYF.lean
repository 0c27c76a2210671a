/- Plain: abd, lists, trees bw the later wk tape makes. No condition but bR bw stand in each. -/
import Derived.Test.YtmfehenfoepkfaaPYE
namespace Go.Proofs.Ytmfehenfoepkfaa
set_option linter.all false
open Go
theorem um {t : aC} {g : aj} (h : bP t) (hg : g.ay.length ≤ 1000) : Ok (jk t g) (fun p => (p.1 ∈ ids g ∨ p.1 ∈ [0, 98, 100]) ∧ bP p.2) := by
 unfold jk
 refine Ok.jn (fun sg : Bool × List Int × Int => bP (aC.mk sg.2.1 sg.2.2) ∧ (sg.1 = false → 1 ≤ g.ay.length)) (fun s hs => ?_) fun J hJ => ?_
 ·obtain ⟨v, L, A⟩ := s
  obtain ⟨h1, h2⟩ := hs
  refine Ok.cs (fun _ => ?_) fun hv => ?_
  ·exact Ok.bnd (iD h1 (by simp) (by simp)) fun q hq => Ok.s ⟨.inr hq.1, hq.2⟩
  ·have h2 := h2 hv
   refine Ok.bnd (f_n h1 (by omega)) fun q hq => Ok.bnd (eY hq.1.1 (hq.1.2.1 (by omega))) fun r hr => Ok.s ⟨.inl ?_, hq.2⟩
   exact List.mem_map.2 ⟨r, hr.1, rfl⟩
 ·refine Ok.cs (fun _ => hJ _ ⟨h, fun h => by cases h⟩) fun hc => ?_
  have hc : ¬ ((g.ay.length : Int) = 0) := by simpa using hc
  exact Ok.bnd (f_n h (by omega)) fun q hq => hJ _ ⟨hq.2, fun _ => by omega⟩
/-- one of the abd -/
theorem wI {t : aC} {g : aj} {γ : Type} {Q : γ → Prop} {k : Int × aC → aN → Option γ} (h : bP t) (hg : 1 ≤ g.ay.length ∧ g.ay.length ≤ 1000) (hk : ∀ p r, bP p.2 → r ∈ g.ay → r.ID ∈ ids g → Ok (k p r) Q) :
  Ok (bnd (aK t (g.ay.length : Int)) fun p => bnd (elO g.ay p.1) fun r => k p r) Q :=
 Ok.bnd (f_n h (by omega)) fun p hp => Ok.bnd (eY hp.1.1 (hp.1.2.1 (by omega))) fun r hr => hk p r hp.2 hr.1 (List.mem_map.2 ⟨r, hr.1, rfl⟩)
theorem afo {t : aC} {g : aj} {n : Int} (h : bP t) (hg : g.ay.length ≤ 1000) (hn : 0 ≤ n ∧ n ≤ 1000) : Ok (o8 t g n) (fun p => (p.1.Pairwise (· < ·) ∧ (∀ x ∈ p.1, x ∈ ids g) ∧ (p.1.length : Int) ≤ n) ∧ bP p.2) := by
 unfold o8
 rw [dA (by omega) (by omega)]
 refine Ok.bnd (f_n h (by omega)) fun q hq => ?_
 have hq1 := hq.1.2.1 (by omega)
 refine Ok.whl (fun sg : List Int × Int × List Int × Int => (sg.1.Pairwise (· < ·) ∧ (∀ x ∈ sg.1, x ∈ ids g) ∧ (sg.1.length : Int) + sg.2.1 ≤ n ∧ 0 ≤ sg.2.1) ∧ bP (aC.mk sg.2.2.1 sg.2.2.2)) (fun sg => sg.2.1.toNat) ⟨⟨by simp, by simp, by simp; omega, hq.1.1⟩, hq.2⟩ (by simp only; omega) ?_
 rintro ⟨out, i, L, A⟩ Z ⟨⟨h1, h2, h3, h4⟩, h5⟩ hZ
 simp only at h1 h2 h3 h4
 refine Ok.cs (fun hc => ?_) fun hc => Ok.s ⟨⟨h1, h2, by simp only; omega⟩, h5⟩
 simp only [Bool.and_eq_true, decide_eq_true_eq] at hc
 refine wI h5 (by omega) fun p r hp hr hid => ?_
 rw [af8 _ _ (by omega), aL, dA (by omega) (by omega)]
 have := uh out r.ID
 refine hZ _ ⟨⟨yT h1, fun x hx => ?_, by simp only; omega, by simp only; omega⟩, hp⟩ (by simp only; omega)
 rcases ug.1 hx with rfl | hx
 ·exact hid
 ·exact h2 x hx
/-- sM with one more -/
def lR : List bq → bq → List bq
 | [], x => [x]
 | y :: r, x => if ltH y x then y :: lR r x else x :: y :: r
theorem kj : ∀ {l : List bq} {x y : bq}, y ∈ lR l x ↔ y = x ∨ y ∈ l
 | [], x, y => by simp [lR]
 | z :: r, x, y => by
  rw [lR]
  split
  ·rw [List.mem_cons, kj, List.mem_cons]
   constructor
   ·rintro (h | h | h) <;> simp [h]
   ·rintro (h | h | h) <;> simp [h]
  ·simp
theorem vA : ∀ (l : List bq) (x : bq), (lR l x).Perm (x :: l)
 | [], x => by simp [lR]
 | z :: r, x => by
  rw [lR]
  split
  ·exact ((vA r x).cons z).trans (.swap x z r)
  ·exact .refl _
theorem adi {a b : bq} (h : ltH a b = false) (hne : a ≠ b) : ltH b a = true := by
 cases a; cases b
 simp [ltH] at *
 omega
theorem abe : ∀ {l : List bq} {x : bq}, l.Pairwise (fun a b => ltH a b = true) → x ∉ l → (lR l x).Pairwise (fun a b => ltH a b = true)
 | [], x, _, _ => by simp [lR]
 | z :: r, x, h, hx => by
  rw [lR]
  rw [List.pairwise_cons] at h
  simp only [List.mem_cons, not_or] at hx
  split
  ·rename_i hz
   rw [List.pairwise_cons]
   refine ⟨fun y hy => ?_, abe h.2 hx.2⟩
   rcases kj.1 hy with rfl | hy
   ·exact hz
   ·exact h.1 y hy
  ·rename_i hz
   have hzx : ltH x z = true := adi (by simpa using hz) (Ne.symm hx.1)
   rw [List.pairwise_cons, List.pairwise_cons]
   refine ⟨fun y hy => ?_, h⟩
   rcases List.mem_cons.1 hy with rfl | hy
   ·exact hzx
   ·exact zv _ _ _ hzx (h.1 y hy)
theorem abf : ∀ (p r : List bq) (x : bq), (∀ y ∈ p, ltH y x = true) → (∀ y ∈ r.head?, ltH y x = false) → lR (p ++ r) x = p ++ x :: r
 | [], r, x, _, h => by
  cases r with
  | nil => simp [lR]
  | cons y r => have := h y (by simp); simp only [List.nil_append, lR, this]; rfl
 | z :: p, r, x, hp, h => by
  have := hp z (by simp)
  rw [List.cons_append, lR, if_pos this, abf p r x (fun y hy => hp y (by simp [hy])) h]
  rfl
theorem aiv (l : List bq) (x : bq) (hl : l.length ≤ 100000) : qc l x = some (lR l x) := by
 unfold qc
 refine Ok.eq (Ok.whl (fun k : Int => 0 ≤ k ∧ k ≤ l.length ∧ ∀ y ∈ l.take k.toNat, ltH y x = true) (fun k : Int => ((l.length : Int) - k).toNat) ⟨by omega, by omega, by simp⟩ (by omega) ?_)
 rintro k Z ⟨h0, h1, h2⟩ hZ
 refine Ok.jn (fun v : Bool => (v = true ↔ ∃ y ∈ (l.drop k.toNat).head?, ltH y x = true)) ?_ ?_
 ·intro v hv
  refine Ok.cs (fun h => ?_) fun h => ?_
  ·obtain ⟨y, hy, hyx⟩ := hv.1 h
   have hlt : k.toNat < l.length := by
    cases hd : l.drop k.toNat with
    | nil => rw [hd] at hy; simp at hy
    | cons z r => have := congrArg List.length hd; simp at this; omega
   rw [dA (by omega) (by omega)]
   refine hZ _ ⟨by omega, by omega, fun z hz => ?_⟩ (by omega)
   rw [show (k + 1).toNat = k.toNat + 1 by omega, List.take_succ] at hz
   rcases List.mem_append.1 hz with hz | hz
   ·exact h2 z hz
   ·rw [List.head?_drop] at hy
    have e : l[k.toNat]? = some z := by simpa using hz
    have e2 : l[k.toNat]? = some y := hy
    rw [e] at e2; cases e2; exact hyx
  ·have hno : ∀ y ∈ (l.drop k.toNat).head?, ltH y x = false := fun y hy => by
    cases hq : ltH y x
    ·rfl
    ·rw [hv.2 ⟨y, hy, hq⟩] at h; cases h
   have key := abf (l.take k.toNat) (l.drop k.toNat) x h2 hno
   rw [List.take_append_drop] at key
   refine Ok.bnd (qf ⟨by omega, by omega, by omega⟩) fun l1 q1 => ?_
   refine Ok.bnd (iR (by simp; omega)) fun l2 q2 => ?_
   refine Ok.bnd (qf ⟨by omega, by omega, by omega⟩) fun l3 q3 => ?_
   refine Ok.bnd (iR (by simp at q2 q3 q1 ⊢; omega)) fun l4 q4 => Ok.s ?_
   rw [q4.1, q3.1, q2.1, q1.1, key]
   simp
 ·intro J hJ
  refine Ok.cs (fun hc => ?_) fun hc => hJ _ ?_
  ·simp at hc
   refine Ok.bnd (eY h0 hc) fun e he => ?_
   have hh : (l.drop k.toNat).head? = some e := by rw [List.head?_drop, he.2]
   refine Ok.cs (fun c1 => hJ _ ?_) fun c1 => Ok.cs (fun c2 => hJ _ ?_) fun c2 => hJ _ ?_
   ·rw [hh]; simp [ltH] at *; left; exact c1
   ·rw [hh]; simp [ltH] at *; omega
   ·rw [hh]; simp [ltH] at *; omega
  ·simp at hc
   rw [List.drop_of_length_le (by omega)]; simp
theorem Rch.mono {root : Int} {L L' : List bq} (h : ∀ x ∈ L, x ∈ L') {y : Int} (hr : Rch root L y) : Rch root L' y := by
 induction hr with
 | root => exact .root
 | step x hx _ ih => exact .step x (h x hx) ih
theorem Vr.reach {t : bB} (h : Vr t) {x : Int} (hx : x = t.bL ∨ ∃ h ∈ t.Links, h.To = x) : Rch t.bL t.Links x := by
 rcases hx with rfl | ⟨y, hy, rfl⟩
 ·exact .root
 ·exact .step y hy (h.rch y hy)
theorem Vr.add {t : bB} (h : Vr t) {x : bq} (hr : (1 ≤ x.bJ ∧ x.bJ ≤ 99) ∧ 1 ≤ x.To ∧ x.To ≤ 99) (hf : x.bJ = t.bL ∨ ∃ h ∈ t.Links, h.To = x.bJ) (ht : ¬ (x.To = t.bL ∨ ∃ h ∈ t.Links, h.To = x.To)) : Vr (bB.mk t.bL (lR t.Links x)) := by
 rw [not_or] at ht
 have hx : x ∉ t.Links := fun hm => ht.2 ⟨x, hm, rfl⟩
 have hsub : ∀ y ∈ t.Links, y ∈ lR t.Links x := fun y hy => kj.2 (.inr hy)
 refine ⟨h.rt, fun y hy => ?_, abe h.asc hx, ?_, fun y hy => ?_, fun y hy => ?_⟩
 ·rcases kj.1 hy with rfl | hy
  ·exact hr
  ·exact h.rng y hy
 ·refine ((vA t.Links x).pairwise_iff (fun {a b} (hab : a.To ≠ b.To) => Ne.symm hab)).2 ?_
  rw [List.pairwise_cons]
  exact ⟨fun y hy e => ht.2 ⟨y, hy, e.symm⟩, h.dup⟩
 ·rcases kj.1 hy with rfl | hy
  ·exact ht.1
  ·exact h.nrt y hy
 ·rcases kj.1 hy with rfl | hy
  ·exact (h.reach hf).mono hsub
  ·exact (h.rch y hy).mono hsub
/-- a tree of the tape: aab links -/
structure Tn (g : aj) (root : Int) (t : bB) : Prop where
 rt : t.bL = root
 len : t.Links.length ≤ 200
 v : root ∈ ids g → Vr t
 no : root ∉ ids g → t.Links = []
 adj : ∀ h ∈ t.Links, kZ g h.bJ h.To = true
theorem uo {g : aj} (hv : Vt g) {x : Int} (h : x ∈ ids g) : 1 ≤ x ∧ x ≤ 99 := by
 obtain ⟨r, hr, rfl⟩ := List.mem_map.1 h
 exact hv.idr r hr
theorem xD {t : aC} {g : aj} {root : Int} (h : bP t) (hv : Vt g) : Ok (lQ t g root) (fun p => Tn g root p.1 ∧ bP p.2) := by
 unfold lQ
 have hnl := hv.nl
 rw [dA (n := 2 * (g.Links.length : Int)) (by omega) (by omega), dA (by omega) (by omega)]
 refine Ok.bnd (f_n h (by omega)) fun q hq => ?_
 have hq1 := hq.1.2.1 (by omega)
 refine Ok.whl (fun sg : List Int × Int × List bq × List Int × Int => (Tn g root (bB.mk root sg.2.2.1) ∧ (∀ x, x ∈ sg.1 ↔ x = root ∨ ∃ h ∈ sg.2.2.1, h.To = x)) ∧ (0 ≤ sg.2.1 ∧ (sg.1.length : Int) + sg.2.1 ≤ 130 ∧ sg.2.2.1.length ≤ sg.1.length) ∧ bP (aC.mk sg.2.2.2.1 sg.2.2.2.2) ∧ (0 < sg.2.1 → 1 ≤ g.Links.length)) (fun sg => sg.2.1.toNat) ?_ (by simp only; omega) ?_
 ·refine ⟨⟨⟨rfl, by simp, fun hr => ⟨uo hv hr, by simp, by simp, by simp, by simp, by simp⟩, fun _ => rfl, by simp⟩, by simp⟩, ⟨hq.1.1, by simp; omega, by simp⟩, hq.2, fun h0 => ?_⟩
  simp only at h0; omega
 rintro ⟨vin, i, ls, L, A⟩ Z ⟨⟨h1, h2⟩, ⟨h3, h4, h5⟩, h6, h7⟩ hZ
 simp only at h1 h2 h3 h4 h5 h7
 refine Ok.cs (fun hc => ?_) fun hc => Ok.s ⟨h1, h6⟩
 have hc : 0 < i := by simpa using hc
 refine Ok.jn (fun sg : List Int × List Int × Int × List bq => (Tn g root (bB.mk root sg.2.2.2) ∧ (∀ x, x ∈ sg.1 ↔ x = root ∨ ∃ h ∈ sg.2.2.2, h.To = x)) ∧ ((sg.1.length : Int) ≤ vin.length + 1 ∧ sg.2.2.2.length ≤ sg.1.length) ∧ bP (aC.mk sg.2.1 sg.2.2.1)) (fun s hs => ?_) fun J hJ => ?_
 ·obtain ⟨s1, s2, s3⟩ := hs
  rw [dA (by omega) (by omega)]
  exact hZ _ ⟨s1, ⟨by simp only; omega, by simp only; omega, s2.2⟩, s3, fun _ => h7 hc⟩ (by simp only; omega)
 refine Ok.bnd (f_n h6 (by omega)) fun p hp => Ok.bnd (eY hp.1.1 (hp.1.2.1 (by have := h7 hc; omega))) fun l hl => ?_
 have aaG : kZ g l.A l.B = true := qU.2 ⟨l, hl.1, .inl ⟨rfl, rfl⟩⟩
 refine Ok.jn (fun sg : Int × Int => kZ g sg.1 sg.2 = true) (fun s hs => ?_) fun J2 hJ2 => ?_
 ·obtain ⟨a, b⟩ := s
  have hs : kZ g a b = true := hs
  refine Ok.jn (fun v : Bool => v = true → a ∈ vin ∧ b ∉ vin) (fun v hv2 => ?_) fun J3 hJ3 => ?_
  ·refine Ok.cs (fun hc2 => ?_) fun _ => hJ _ ⟨⟨h1, h2⟩, ⟨by simp only; omega, h5⟩, hp.2⟩
   obtain ⟨ha, hb⟩ := hv2 hc2
   refine Ok.bnd (iR (by simp; omega)) fun v2 q2 => ?_
   rw [aiv _ _ (by omega), aL, q2.1]
   have hpl := (vA ls (bq.mk a b)).length_eq
   simp only [List.length_cons] at hpl
   have hin : ∀ x, x ∈ vin ++ [b] ↔ x = root ∨ ∃ h ∈ lR ls (bq.mk a b), h.To = x := fun x => by
    rw [List.mem_append, h2]
    constructor
    ·rintro ((h | ⟨y, hy, h⟩) | h)
     ·exact .inl h
     ·exact .inr ⟨y, kj.2 (.inr hy), h⟩
     ·simp at h; subst h; exact .inr ⟨bq.mk a x, kj.2 (.inl rfl), rfl⟩
    ·rintro (h | ⟨y, hy, h⟩)
     ·exact .inl (.inl h)
     ·rcases kj.1 hy with rfl | hy
      ·exact .inr (by simp [← h])
      ·exact .inl (.inr ⟨y, hy, h⟩)
   refine hJ _ ⟨⟨⟨rfl, ?_, fun hr => ?_, fun hr => ?_, fun y hy => ?_⟩, hin⟩, ⟨by simp, by simp; omega⟩, hp.2⟩
   ·show (lR ls (bq.mk a b)).length ≤ 200; omega
   ·have e1 := uo hv (nt hv (rV hs)); have e2 := uo hv (nt hv hs)
    exact (h1.v hr).add (x := bq.mk a b) ⟨e1, e2⟩ ((h2 a).1 ha) (fun hh => hb ((h2 b).2 hh))
   ·have := h1.no hr
    simp only at this
    subst this
    have := (h2 a).1 ha
    simp at this
    subst this
    exact absurd (nt hv (rV hs)) hr
   ·rcases kj.1 hy with rfl | hy
    ·exact hs
    ·exact h1.adj y hy
  ·simp only [aaw, aL]
   refine Ok.cs (fun hca => hJ3 _ fun hcb => ⟨by simpa using hca, by simpa using hcb⟩) fun _ => hJ3 _ fun h => by cases h
 ·simp only [aaw, aL]
  exact Ok.cs (fun _ => hJ2 _ (rV aaG)) fun _ => hJ2 _ aaG
end Go.Proofs.Ytmfehenfoepkfaa
