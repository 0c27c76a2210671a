/- Plain: the full aaG, and the yO aY the later vS tape makes. No condition but bL aY stand in each. -/
import Derived.Test.YtdjeacigeegklaaPYF
namespace Go.Proofs.Ytdjeacigeegklaa
set_option linter.all false
open Go
/-! ## the full aaG -/
def mA (t : aa) (r : Int) : List (Int × Int × Int) := (r, 3, r) :: (lI t r).map fun q => (r, 1, q)
def gQ (t : aa) : List (Int × Int × Int) := (ids t).flatMap (mA t)
/-- wo, afR -/
def iS : Nat → List (Int × Int × Int) → List ah
 | _, [] => []
 | n, (r, k, q) :: l => ah.mk (n : Int) r k q :: iS (n + 1) l
theorem rG : ∀ (n : Nat) (l : List (Int × Int × Int)), (iS n l).length = l.length
 | _, [] => rfl
 | n, (r, k, q) :: l => by simp only [iS, List.length_cons, rG (n + 1) l]
theorem aaH : ∀ (n : Nat) (a b : List (Int × Int × Int)), iS n (a ++ b) = iS n a ++ iS (n + a.length) b
 | n, [], b => by simp [iS]
 | n, (r, k, q) :: l, b => by
  simp only [List.cons_append, iS, aaH (n + 1) l b, List.length_cons]
  rw [show n + 1 + l.length = n + (l.length + 1) by omega]
theorem rH : ∀ (n : Nat) (l : List (Int × Int × Int)) (i : Nat) (a : ah), (iS n l)[i]? = some a → a.Bit = ((n + i : Nat) : Int) ∧ l[i]? = some (a.aR, a.Kind, a.To)
 | n, [], i, a, h => by simp [iS] at h
 | n, (r, k, q) :: l, 0, a, h => by simp [iS] at h; subst h; simp
 | n, (r, k, q) :: l, i + 1, a, h => by
  simp only [iS, List.getElem?_cons_succ] at h
  obtain ⟨h1, h2⟩ := rH (n + 1) l i a h
  exact ⟨by rw [h1]; omega, by simpa using h2⟩
theorem afS {n : Nat} {l : List (Int × Int × Int)} {a : ah} (h : a ∈ iS n l) : (a.aR, a.Kind, a.To) ∈ l ∧ (n : Int) ≤ a.Bit ∧ a.Bit < n + l.length := by
 obtain ⟨i, hi⟩ := List.getElem?_of_mem h
 obtain ⟨h1, h2⟩ := rH _ _ _ _ hi
 have := (List.getElem?_eq_some_iff.1 h2).1
 exact ⟨List.mem_of_getElem? h2, by omega, by omega⟩
theorem adv {t : aa} (hv : Vt t) (r : Int) : (lI t r).Perm (t.Links.filterMap (fF r)) :=
 (List.perm_ext_iff_of_nodup ((xo hv r).imp fun h => by omega) (sF hv r)).2 fun x => by rw [r9 hv, adj hv]
theorem akQ {t : aa} (hv : Vt t) : ((ids t).map fun r => (lI t r).length).sum = 2 * t.Links.length := by
 have e : ((ids t).map fun r => (lI t r).length) = (ids t).map fun r => (t.Links.filterMap (fF r)).length := List.map_congr_left fun r _ => (adv hv r).length_eq
 rw [e]
 have hnd : (ids t).Nodup := (ve hv).imp fun h => by omega
 have key : ∀ L : List bf, (∀ l ∈ L, l.A ∈ ids t ∧ l.B ∈ ids t ∧ l.A < l.B) → ((ids t).map fun r => (L.filterMap (fF r)).length).sum = 2 * L.length := by
  intro L
  induction L with
  | nil => intro _; simp; induction (ids t) <;> simp_all
  | cons l L ih =>
   intro h
   have ih := ih fun x hx => h x (by simp [hx])
   obtain ⟨hA, hB, hlt⟩ := h l (by simp)
   have e2 : ∀ r, ((l :: L).filterMap (fF r)).length = (if r = l.A then 1 else 0) + (if r = l.B then 1 else 0) + (L.filterMap (fF r)).length := fun r => by
    unfold fF
    by_cases h1 : r = l.A
    ·subst h1
     have : ¬ l.A = l.B := by omega
     rw [List.filterMap_cons_some (b := l.B) (by simp)]
     simp [this]; omega
    ·by_cases h2 : r = l.B
     ·subst h2
      rw [List.filterMap_cons_some (b := l.A) (by simp [h1])]
      simp [h1]; omega
     ·rw [List.filterMap_cons_none (by simp [h1, h2])]
      simp [h1, h2]
   simp only [e2]
   have cnt : ∀ (I : List Int) (x : Int), I.Nodup → x ∈ I → (I.map fun r => if r = x then 1 else 0).sum = 1 := by
    intro I x
    induction I with
    | nil => intro _ h; cases h
    | cons a I ih2 =>
     intro hn hx
     rw [List.nodup_cons] at hn
     simp only [List.map_cons, List.sum_cons]
     by_cases e3 : a = x
     ·subst e3
      have : (I.map fun r => if r = a then 1 else 0).sum = 0 := by
       have h0 : ∀ J : List Int, a ∉ J → (J.map fun r => if r = a then 1 else 0).sum = 0 := by
        intro J
        induction J with
        | nil => intro _; rfl
        | cons b J ih4 =>
         intro hb
         simp only [List.mem_cons, not_or] at hb
         simp only [List.map_cons, List.sum_cons, ih4 hb.2, if_neg (Ne.symm hb.1)]
       exact h0 I hn.1
      rw [if_pos rfl, this]
     ·rcases List.mem_cons.1 hx with rfl | hx
      ·exact absurd rfl e3
      ·rw [if_neg e3, ih2 hn.2 hx]
   have sum3 : ∀ (I : List Int) (f g k : Int → Nat), (I.map fun r => f r + g r + k r).sum = (I.map f).sum + (I.map g).sum + (I.map k).sum := by
    intro I f g k
    induction I with
    | nil => rfl
    | cons a I ih3 => simp only [List.map_cons, List.sum_cons, ih3]; omega
   rw [sum3 (ids t) (fun r => if r = l.A then 1 else 0) (fun r => if r = l.B then 1 else 0) (fun r => (L.filterMap (fF r)).length), cnt _ _ hnd hA, cnt _ _ hnd hB, ih, List.length_cons]
   omega
 exact key t.Links fun l hl => ⟨nR.2 (hv.ends l hl).1, nR.2 (hv.ends l hl).2, hv.lt l hl⟩
theorem afT {t : aa} (hv : Vt t) : (gQ t).length = t.aC.length + 2 * t.Links.length := by
 rw [← akQ hv, gQ, List.length_flatMap]
 have : ∀ I : List Int, (I.map fun r => (mA t r).length).sum = I.length + (I.map fun r => (lI t r).length).sum := by
  intro I
  induction I with
  | nil => rfl
  | cons a I ih =>
   have hr : (mA t a).length = 1 + (lI t a).length := by simp [mA]; omega
   simp only [List.map_cons, List.sum_cons, ih, List.length_cons, hr]; omega
 rw [this, show (ids t).length = t.aC.length by simp [ids]]
def tV (t : aa) (n : Int) : aM × Int :=
 if jb t = 0 then bif !jD n then (aM.mk 0 [], 2) else if n < ((gQ t).length : Int) then (aM.mk 0 [], 3) else (aM.mk n (iS 0 (gQ t)), 0) else (aM.mk 0 [], 1)
theorem acs {t : aa} (hv : Vt t) : (gQ t).length ≤ 144 := by
 rw [afT hv]; have := hv.nr; have := hv.nl; omega
/-- what is qO with its number -/
theorem aaI {α : Type} {β : Type} (f : α → Int × Int × Int) {B : Int → α → (List ah → Option β) → List ah → Option β} {K : List ah → Option β}
  (hB : ∀ j x Z (s : List ah), s.length < 1000 → B j x Z s = Z (s ++ [ah.mk (s.length : Int) (f x).1 (f x).2.1 (f x).2.2])) : ∀ (l : List α) (j : Nat) (s : List ah), s.length + l.length ≤ 1000 → bY l j B K s = K (s ++ iS s.length (l.map f))
 | [], _, s, _ => by simp [bY, iS]
 | x :: r, j, s, h => by
  simp only [List.length_cons] at h
  simp only [bY]
  rw [hB _ _ _ _ (by omega), aaI f hB r (j + 1) _ (by simp; omega)]
  simp only [List.length_append, List.length_singleton, List.map_cons, iS, List.append_assoc, List.singleton_append]
/-- rows aY are qO one after the other -/
theorem adw {α : Type} {β : Type} (f : α → List (Int × Int × Int)) {L : List α} {B : Int → α → (List ah → Option β) → List ah → Option β} {K : List ah → Option β} (hL : (L.flatMap f).length ≤ 900)
  (hB : ∀ j x Z (s : List ah), x ∈ L → s.length + (f x).length ≤ 900 → B j x Z s = Z (s ++ iS s.length (f x))) : bY L 0 B K [] = K (iS 0 (L.flatMap f)) := by
 refine (nF (L := L) (fun p s => s = iS 0 (p.flatMap f)) (fun p l => K (iS 0 (L.flatMap f))) (fun s hs => by rw [hs]) (fun p x r s Z h hi hZ => ?_) L [] [] rfl rfl)
 subst hi
 have hlen : (iS 0 (p.flatMap f)).length + (f x).length ≤ 900 := by
  rw [rG]
  have : (L.flatMap f).length = (p.flatMap f).length + ((f x).length + (r.flatMap f).length) := by rw [← h]; simp
  omega
 rw [hB _ _ _ _ (by rw [← h]; simp) hlen]
 refine hZ _ ?_
 rw [List.flatMap_append, aaH, rG]
 simp
theorem acu (t : aa) (n : Int) : kN t n = some (tV t n) := by
 unfold kN tV jf
 simp only [zn, bK]
 by_cases hc : jb t = 0
 ·have hv := nk.1 hc
  have hk := acs hv
  simp only [hc, decide_true, Bool.not_true, cond_false, if_true]
  show (bif !jD n then _ else _) = _
  cases jD n
  ·rfl
  simp only [Bool.not_true, cond_false]
  have e : gQ t = t.aC.flatMap fun r => mA t r.ID := by unfold gQ ids; rw [List.flatMap_map]
  refine (adw (fun r : aP => mA t r.ID) (by rw [← e]; omega) (fun j x Z s hx hs => ?_)).trans ?_
  ·simp only [mA, List.length_cons, List.length_map] at hs
   rw [p8 (by omega), bK, yI, bK, if_pos hc]
   refine (aaI (fun q : Int => (x.ID, (1:Int), q)) (fun j q Z s hs => by rw [p8 (by omega), bK]) _ _ _ (by simp; omega)).trans ?_
   simp only [List.append_assoc, mA, iS, List.length_append, List.length_singleton, List.singleton_append]
  ·rw [← e, rG]
   by_cases hn : n < ((gQ t).length : Int)
   ·simp [hn]
   ·simp [hn]
 ·simp [hc]
/-! ## yO aY fit -/
structure acv (t : aa) (a : ah) : Prop where
 r : a.aR ∈ ids t
 q : a.To ∈ ids t
 k : (a.Kind = 3 ∧ a.To = a.aR) ∨ (a.Kind = 1 ∧ kW t a.aR a.To = true) ∨ (a.Kind = 2 ∧ a.To ≠ a.aR)
/-- afR from a number on, each of sM kind -/
structure EL (t : aa) (n : Nat) (m : List ah) : Prop where
 bit : ∀ i a, m[i]? = some a → a.Bit = ((n + i : Nat) : Int)
 ok : ∀ a ∈ m, acv t a
 dup : m.Pairwise fun a b => tgA a ≠ tgA b
theorem EL.nil (t : aa) (n : Nat) : EL t n [] := ⟨by simp, by simp, by simp⟩
theorem EL.add {t : aa} {m : List ah} (h : EL t 0 m) {x : ah} (hb : x.Bit = m.length) (hx : acv t x) (hd : ∀ a ∈ m, tgA a ≠ tgA x) : EL t 0 (m ++ [x]) := by
 refine ⟨fun i a hi => ?_, fun a ha => ?_, List.pairwise_append.2 ⟨h.dup, by simp, fun a ha b hb => ?_⟩⟩
 ·rw [List.getElem?_append] at hi
  split at hi
  ·exact h.bit i a hi
  ·rename_i hlt
   have e : i = m.length := by
    have := (List.getElem?_eq_some_iff.1 hi).1; simp at this; omega
   subst e; simp at hi; subst hi; rw [hb]; simp
 ·rcases List.mem_append.1 ha with ha | ha
  ·exact h.ok a ha
  ·simp at ha; subst ha; exact hx
 ·simp at hb; subst hb; exact hd a ha
theorem EL.take {t : aa} {n k : Nat} {m : List ah} (h : EL t n m) : EL t n (m.take k) :=
 ⟨fun i a hi => h.bit i a (by rw [List.getElem?_take] at hi; split at hi; exact hi; cases hi), fun a ha => h.ok a (List.mem_of_mem_take ha), h.dup.sublist (List.take_sublist k m)⟩
/-- valid, and belonging to the o8 -/
structure Ef (t : aa) (e : aM) : Prop where
 v : Ve e
 ok : ∀ a ∈ e.List, acv t a
theorem EL.ef {t : aa} {n : Nat} {m : List ah} {len : Int} (hv : Vt t) (h : EL t n m) (hl : len = 8 ∨ len = 16 ∨ len = 32 ∨ len = 64) (hm : (n : Int) + m.length ≤ len) : Ef t (aM.mk len m) := by
 have asc : m.Pairwise fun a b => a.Bit < b.Bit := List.pairwise_iff_getElem.2 fun i j hi hj hij => by
  have h1 := h.bit i _ (List.getElem?_eq_getElem hi); have h2 := h.bit j _ (List.getElem?_eq_getElem hj)
  omega
 refine ⟨⟨hl, fun a ha => ?_, fun a ha => ?_, fun a ha => ?_, asc, h.dup⟩, h.ok⟩
 ·obtain ⟨i, hi⟩ := List.getElem?_of_mem ha
  have hb := h.bit i a hi
  have hlt : i < m.length := (List.getElem?_eq_some_iff.1 hi).1
  exact ⟨by omega, by simp only; omega, vT hv (h.ok a ha).r, vT hv (h.ok a ha).q⟩
 ·have := (h.ok a ha).k; omega
 ·rcases (h.ok a ha).k with ⟨h1, h2⟩ | ⟨h1, h2⟩ | ⟨h1, h2⟩
  ·simp [h1, h2]
  ·have := aol hv h2
   simp [h1, Ne.symm this]
  ·simp [h1, h2]
theorem afU {t : aa} (hv : Vt t) {r k q : Int} : (r, k, q) ∈ gQ t ↔ r ∈ ids t ∧ ((k = 3 ∧ q = r) ∨ (k = 1 ∧ kW t r q = true)) := by
 unfold gQ mA
 simp only [List.mem_flatMap, List.mem_cons, List.mem_map, Prod.mk.injEq, r9 hv]
 constructor
 ·rintro ⟨a, ha, ⟨rfl, rfl, rfl⟩ | ⟨b, hb, rfl, rfl, rfl⟩⟩
  ·exact ⟨ha, .inl ⟨rfl, rfl⟩⟩
  ·exact ⟨ha, .inr ⟨rfl, hb⟩⟩
 ·rintro ⟨ha, ⟨rfl, rfl⟩ | ⟨rfl, hb⟩⟩
  ·exact ⟨q, ha, .inl ⟨rfl, rfl, rfl⟩⟩
  ·exact ⟨r, ha, .inr ⟨q, hb, rfl, rfl, rfl⟩⟩
theorem acw {t : aa} (hv : Vt t) : (gQ t).Nodup := by
 unfold gQ
 refine List.pairwise_flatMap.2 ⟨fun r _ => ?_, ?_⟩
 ·show (mA t r).Nodup
  unfold mA
  rw [List.nodup_cons]
  refine ⟨fun h => ?_, ?_⟩
  ·obtain ⟨x, _, hx⟩ := List.mem_map.1 h; cases hx
  ·exact List.Pairwise.map _ (fun a b (hab : a < b) he => by simp at he; omega) (xo hv r)
 ·refine (ve hv).imp fun {a b} hab => ?_
  intro x hx y hy hxy
  subst hxy
  have e1 : x.1 = a := by
   rcases List.mem_cons.1 hx with rfl | hx
   ·rfl
   ·obtain ⟨_, _, rfl⟩ := List.mem_map.1 hx; rfl
  have e2 : x.1 = b := by
   rcases List.mem_cons.1 hy with rfl | hy
   ·rfl
   ·obtain ⟨_, _, rfl⟩ := List.mem_map.1 hy; rfl
  omega
theorem akR {t : aa} (hv : Vt t) : EL t 0 (iS 0 (gQ t)) := by
 refine ⟨fun i a hi => (rH _ _ _ _ hi).1, fun a ha => ?_, ?_⟩
 ·obtain ⟨h1, h2⟩ := (afU hv).1 (afS ha).1
  rcases h2 with ⟨h2, h3⟩ | ⟨h2, h3⟩
  ·exact ⟨h1, by rw [h3]; exact h1, .inl ⟨h2, h3⟩⟩
  ·exact ⟨h1, qt hv h3, .inr (.inl ⟨h2, h3⟩)⟩
 ·refine List.pairwise_iff_getElem.2 fun i j hi hj hij he => ?_
  have h1 := (rH _ _ _ _ (List.getElem?_eq_getElem hi)).2; have h2 := (rH _ _ _ _ (List.getElem?_eq_getElem hj)).2
  simp only [tgA, bZ.mk.injEq] at he
  obtain ⟨q1, e1⟩ := List.getElem?_eq_some_iff.1 h1
  obtain ⟨q2, e2⟩ := List.getElem?_eq_some_iff.1 h2
  have := List.pairwise_iff_getElem.1 (acw hv) i j q1 q2 hij
  exact this (by rw [e1, e2, he.1, he.2.1, he.2.2])
end Go.Proofs.Ytdjeacigeegklaa
