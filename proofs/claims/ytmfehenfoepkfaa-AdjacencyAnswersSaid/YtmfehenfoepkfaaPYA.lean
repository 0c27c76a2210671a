/- Plain: the tape of the later layers, and its small words. No condition. -/
import Derived.Test.YtmfehenfoepkfaaPM
import Derived.Test.YtmfehenfoepkfaaDA
namespace Go.Proofs.Ytmfehenfoepkfaa
set_option linter.all false
open Go
def bP (t : aC) : Prop := 0 ≤ t.At ∧ t.At ≤ t.L.length ∧ t.L.length ≤ 2000
theorem ac7 (n : Int) : w64 n ≤ 9223372036854775807 ∧ -9223372036854775808 ≤ w64 n := by
 unfold w64
 rw [IntKind.wrap_i64]; omega
theorem zJ (l : List Int) : Ok (eO l) bP := by
 unfold eO
 refine Ok.bnd (qf ⟨by omega, ?_, ?_⟩) fun m hm => Ok.s ⟨by simp, by simp, ?_⟩
 ·split <;> omega
 ·split <;> omega
 ·have := hm.2; simp only; split at this <;> omega
theorem anJ {t : aC} (h : bP t) : Ok (fN t) (fun p => bP p.2) := by
 obtain ⟨h0, h1, h2⟩ := h
 unfold fN
 refine Ok.cs (fun _ => Ok.s ⟨h0, h1, h2⟩) fun hc => ?_
 simp at hc
 have e : w64 (t.At + 1) = t.At + 1 := dA (by omega) (by omega)
 rw [e, dA (by omega) (by omega)]
 refine Ok.bnd (eY (by omega) (by omega)) fun a _ => Ok.s ⟨?_, ?_, h2⟩ <;> show _ <;> simp <;> omega
theorem anK {x n : Int} (hn : n ≤ 9223372036854775807) : Ok (iO x n) (fun r => 0 ≤ r ∧ (1 ≤ n → r < n) ∧ (n < 1 → r = 0)) := by
 unfold iO
 refine Ok.cs (fun h => Ok.s ?_) fun h => ?_
 ·simp at h; omega
 have h : 1 ≤ n := by simpa using h
 have h1 : Int.tmod x n < n := Int.tmod_lt_of_pos _ (by omega)
 have h2 : -n < Int.tmod x n := Int.lt_tmod_of_pos _ (by omega)
 refine Ok.chk (by simp; omega) ?_
 refine Ok.jn (fun r => 0 ≤ r ∧ r < n) (fun s hs => Ok.s ⟨hs.1, fun _ => hs.2, by omega⟩) fun J hJ => ?_
 refine Ok.cs (fun hc => hJ _ ?_) fun hc => hJ _ ?_
 ·simp at hc; rw [dA (by omega) (by omega)]; omega
 ·simp at hc; omega
theorem f_n {t : aC} {n : Int} (h : bP t) (hn : n ≤ 9223372036854775807) : Ok (aK t n) (fun p => (0 ≤ p.1 ∧ (1 ≤ n → p.1 < n) ∧ (n < 1 → p.1 = 0)) ∧ bP p.2) := by
 unfold aK
 exact Ok.bnd (anJ h) fun p hp => Ok.bnd (anK hn) fun r hr => Ok.s ⟨hr, hp⟩
theorem pW {t : aC} {low high : Int} (h : bP t) : Ok (cn t low high) (fun p => (-2305843009213693952 ≤ low → low ≤ high → high < 2305843009213693952 → low ≤ p.1 ∧ p.1 ≤ high) ∧ bP p.2) := by
 unfold cn
 refine Ok.bnd (f_n h (ac7 _).1) fun p hp => Ok.s ⟨fun h1 h2 h3 => ?_, hp.2⟩
 obtain ⟨⟨q1, q2, _⟩, _⟩ := hp
 rw [dA (n := high - low) (by omega) (by omega), dA (n := high - low + 1) (by omega) (by omega)] at q2
 show low ≤ w64 (low + p.1) ∧ w64 (low + p.1) ≤ high
 rw [dA (by omega) (by omega)]; omega
theorem iD {t : aC} {l : List Int} (h : bP t) (h0 : 1 ≤ l.length) (h1 : l.length ≤ 1000000) : Ok (bx t l) (fun p => p.1 ∈ l ∧ bP p.2) := by
 unfold bx
 refine Ok.bnd (f_n h (by omega)) fun p hp => ?_
 exact Ok.bnd (eY hp.1.1 (hp.1.2.1 (by omega))) fun a ha => Ok.s ⟨ha.1, hp.2⟩
theorem aaw (l : List Int) (n : Int) : dg l n = some (decide (n ∈ l)) := by
 unfold dg
 rw [dS (fun x => decide (x = n)) (some true) (fun j x Z s => rfl) l 0 (), ail]
 by_cases h : n ∈ l <;> simp [h]
theorem ac8 (a b : List Int) : gn a b = some (decide (a = b)) := by
 unfold gn
 by_cases hl : a.length = b.length
 ·rw [show (!decide ((a.length : Int) = (b.length : Int))) = false by simp [hl], cond_false]
  have key := aar (L := a) (f := fun p l (_ : Unit) => some (decide (l = b.drop p.length))) (K := fun sg : Unit => match sg with | () => some true) (B := fun (j1 : Int) (e1 : Int) (Z1 : Unit → Option _) (sg : Unit) => match sg with | () => bnd (elO b (j1 : Int)) fun (e_1 : Int) => bif !decide (e1 = e_1) then some false else Z1 ())
   (fun s => by rw [List.drop_of_length_le (by omega)]; rfl) (fun p x r s Z hp hZ => by
    have hlt : p.length < b.length := by rw [← hl, ← hp]; simp
    simp only [elO, if_pos (Int.natCast_nonneg _), Int.toNat_natCast, List.getElem?_eq_getElem hlt, aL]
    rw [List.drop_eq_getElem_cons hlt]
    by_cases hx : x = b[p.length]
    ·simp only [hx, decide_true, Bool.not_true, cond_false, hZ, List.length_append, List.length_singleton, List.cons.injEq, true_and]
    ·rw [decide_eq_false hx, Bool.not_false, cond_true, decide_eq_false (fun h => hx (List.cons.inj h).1)]) a [] () rfl
  simpa using key
 ·rw [show (!decide ((a.length : Int) = (b.length : Int))) = true by simp; omega, cond_true]
  rw [decide_eq_false (fun h => hl (by rw [h]))]
/-- numbers with one more -/
def ki : List Int → Int → List Int
 | [], x => [x]
 | y :: r, x => if y < x then y :: ki r x else if y = x then y :: r else x :: y :: r
theorem ug : ∀ {l : List Int} {x y : Int}, y ∈ ki l x ↔ y = x ∨ y ∈ l
 | [], x, y => by simp [ki]
 | z :: r, x, y => by
  rw [ki]
  split
  ·rw [List.mem_cons, ug, List.mem_cons]
   constructor
   ·rintro (h | h | h) <;> simp [h]
   ·rintro (h | h | h) <;> simp [h]
  ·split
   ·rename_i h; subst h; simp
   ·simp
theorem yT : ∀ {l : List Int} {x : Int}, l.Pairwise (· < ·) → (ki l x).Pairwise (· < ·)
 | [], x, _ => by simp [ki]
 | z :: r, x, h => by
  rw [ki]
  rw [List.pairwise_cons] at h
  split
  ·rw [List.pairwise_cons]
   refine ⟨fun y hy => ?_, yT h.2⟩
   rcases ug.1 hy with rfl | hy
   ·assumption
   ·exact h.1 y hy
  ·split
   ·exact List.pairwise_cons.2 h
   ·rw [List.pairwise_cons]
    refine ⟨fun y hy => ?_, List.pairwise_cons.2 h⟩
    rcases List.mem_cons.1 hy with rfl | hy
    ·omega
    ·have := h.1 y hy; omega
theorem uh : ∀ (l : List Int) (x : Int), (ki l x).length ≤ l.length + 1
 | [], x => by simp [ki]
 | z :: r, x => by
  rw [ki]
  have := uh r x
  split
  ·simp; omega
  ·split <;> simp
theorem aba : ∀ (p r : List Int) (x : Int), (∀ y ∈ p, y < x) → (∀ y ∈ r.head?, x ≤ y) → ki (p ++ r) x = if r.head? = some x then p ++ r else p ++ x :: r
 | [], r, x, _, h => by
  cases r with
  | nil => simp [ki]
  | cons y r =>
   have := h y (by simp)
   simp only [List.nil_append, ki, if_neg (show ¬ y < x by omega), List.head?_cons, Option.some.injEq]
 | z :: p, r, x, hp, h => by
  have := hp z (by simp)
  rw [List.cons_append, ki, if_pos this, aba p r x (fun y hy => hp y (by simp [hy])) h]
  split <;> rfl
theorem af8 (l : List Int) (x : Int) (hl : l.length ≤ 100000) : gH l x = some (ki l x) := by
 unfold gH
 refine Ok.eq (Ok.whl (fun k : Int => 0 ≤ k ∧ k ≤ l.length ∧ ∀ y ∈ l.take k.toNat, y < x) (fun k : Int => ((l.length : Int) - k).toNat) ⟨by omega, by omega, by simp⟩ (by omega) ?_)
 rintro k Z ⟨h0, h1, h2⟩ hZ
 refine Ok.jn (fun v : Bool => (v = true ↔ ∃ y ∈ (l.drop k.toNat).head?, y < x)) ?_ ?_
 ·intro v hv
  refine Ok.cs (fun h => ?_) fun h => ?_
  ·obtain ⟨y, hy, hyx⟩ := hv.1 h
   have hlt : k.toNat < l.length := by
    cases hd : l.drop k.toNat with
    | nil => rw [hd] at hy; simp at hy
    | cons z r => have := congrArg List.length hd; simp at this; omega
   rw [dA (by omega) (by omega)]
   refine hZ _ ⟨by omega, by omega, fun z hz => ?_⟩ (by omega)
   rw [show (k + 1).toNat = k.toNat + 1 by omega, List.take_succ] at hz
   rcases List.mem_append.1 hz with hz | hz
   ·exact h2 z hz
   ·rw [List.head?_drop] at hy
    have e : l[k.toNat]? = some z := by simpa using hz
    have e2 : l[k.toNat]? = some y := hy
    rw [e] at e2; cases e2; exact hyx
  ·have hno : ∀ y ∈ (l.drop k.toNat).head?, x ≤ y := fun y hy => by
    have : ¬ y < x := fun hh => by rw [hv.2 ⟨y, hy, hh⟩] at h; cases h
    omega
   have key := aba (l.take k.toNat) (l.drop k.toNat) x h2 hno
   rw [List.take_append_drop] at key
   refine Ok.jn (fun v : Bool => (v = true ↔ (l.drop k.toNat).head? = some x)) ?_ ?_
   ·intro v2 hv2
    refine Ok.cs (fun h2 => Ok.s ?_) fun h2 => ?_
    ·rw [key, if_pos (hv2.1 h2)]
    ·have hne : ¬ (l.drop k.toNat).head? = some x := fun hh => by rw [hv2.2 hh] at h2; cases h2
     rw [if_neg hne] at key
     refine Ok.bnd (qf ⟨by omega, by omega, by omega⟩) fun l1 q1 => ?_
     refine Ok.bnd (iR (by simp; omega)) fun l2 q2 => ?_
     refine Ok.bnd (qf ⟨by omega, by omega, by omega⟩) fun l3 q3 => ?_
     refine Ok.bnd (iR (by simp at q2 q3 q1 ⊢; omega)) fun l4 q4 => Ok.s ?_
     rw [q4.1, q3.1, q2.1, q1.1, key]
     simp
   ·intro J hJ
    refine Ok.cs (fun hc => ?_) fun hc => hJ _ ?_
    ·simp at hc
     refine Ok.bnd (eY h0 hc) fun e he => hJ _ ?_
     rw [List.head?_drop, he.2]; simp
    ·simp at hc
     rw [List.drop_of_length_le (by omega)]; simp
 ·intro J hJ
  refine Ok.cs (fun hc => ?_) fun hc => hJ _ ?_
  ·simp at hc
   refine Ok.bnd (eY h0 hc) fun e he => hJ _ ?_
   rw [List.head?_drop, he.2]; simp
  ·simp at hc
   rw [List.drop_of_length_le (by omega)]; simp
end Go.Proofs.Ytmfehenfoepkfaa
