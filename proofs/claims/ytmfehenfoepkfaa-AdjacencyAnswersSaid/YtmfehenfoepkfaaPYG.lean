/- Plain: the full aaH, and the yU bw the later wk tape makes. No condition but bR bw stand in each. -/
import Derived.Test.YtmfehenfoepkfaaPYF
namespace Go.Proofs.Ytmfehenfoepkfaa
set_option linter.all false
open Go
/-! ## the full aaH -/
def fB (t : aj) (r : Int) : List (Int × Int × Int) := (r, 3, r) :: (jU t r).map fun q => (r, 1, q)
def dJ (t : aj) : List (Int × Int × Int) := (ids t).flatMap (fB t)
/-- aaU, afp -/
def fc : Nat → List (Int × Int × Int) → List ai
 | _, [] => []
 | n, (r, k, q) :: l => ai.mk (n : Int) r k q :: fc (n + 1) l
theorem lS : ∀ (n : Nat) (l : List (Int × Int × Int)), (fc n l).length = l.length
 | _, [] => rfl
 | n, (r, k, q) :: l => by simp only [fc, List.length_cons, lS (n + 1) l]
theorem uq : ∀ (n : Nat) (a b : List (Int × Int × Int)), fc n (a ++ b) = fc n a ++ fc (n + a.length) b
 | n, [], b => by simp [fc]
 | n, (r, k, q) :: l, b => by
  simp only [List.cons_append, fc, uq (n + 1) l b, List.length_cons]
  rw [show n + 1 + l.length = n + (l.length + 1) by omega]
theorem r9 : ∀ (n : Nat) (l : List (Int × Int × Int)) (i : Nat) (a : ai), (fc n l)[i]? = some a → a.Bit = ((n + i : Nat) : Int) ∧ l[i]? = some (a.aT, a.Kind, a.To)
 | n, [], i, a, h => by simp [fc] at h
 | n, (r, k, q) :: l, 0, a, h => by simp [fc] at h; subst h; simp
 | n, (r, k, q) :: l, i + 1, a, h => by
  simp only [fc, List.getElem?_cons_succ] at h
  obtain ⟨h1, h2⟩ := r9 (n + 1) l i a h
  exact ⟨by rw [h1]; omega, by simpa using h2⟩
theorem abg : ∀ (n : Nat) (l : List (Int × Int × Int)) (i : Nat) (r k q : Int), l[i]? = some (r, k, q) → (fc n l)[i]? = some (ai.mk ((n + i : Nat) : Int) r k q)
 | n, [], i, r, k, q, h => by simp at h
 | n, (r', k', q') :: l, 0, r, k, q, h => by simp at h; obtain ⟨rfl, rfl, rfl⟩ := h; simp [fc]
 | n, (r', k', q') :: l, i + 1, r, k, q, h => by
  simp only [fc, List.getElem?_cons_succ] at h ⊢
  rw [abg (n + 1) l i r k q h]
  congr 2; omega
theorem afq {n : Nat} {l : List (Int × Int × Int)} {a : ai} (h : a ∈ fc n l) : (a.aT, a.Kind, a.To) ∈ l ∧ (n : Int) ≤ a.Bit ∧ a.Bit < n + l.length := by
 obtain ⟨i, hi⟩ := List.getElem?_of_mem h
 obtain ⟨h1, h2⟩ := r9 _ _ _ _ hi
 have := (List.getElem?_eq_some_iff.1 h2).1
 exact ⟨List.mem_of_getElem? h2, by omega, by omega⟩
theorem adk {t : aj} (hv : Vt t) (r : Int) : (jU t r).Perm (t.Links.filterMap (er r)) :=
 (List.perm_ext_iff_of_nodup ((xx hv r).imp fun h => by omega) (sS hv r)).2 fun x => by rw [vv hv, zo hv]
theorem aiw {t : aj} (hv : Vt t) : ((ids t).map fun r => (jU t r).length).sum = 2 * t.Links.length := by
 have e : ((ids t).map fun r => (jU t r).length) = (ids t).map fun r => (t.Links.filterMap (er r)).length := List.map_congr_left fun r _ => (adk hv r).length_eq
 rw [e]
 have hnd : (ids t).Nodup := (aav hv).imp fun h => by omega
 have key : ∀ L : List aV, (∀ l ∈ L, l.A ∈ ids t ∧ l.B ∈ ids t ∧ l.A < l.B) → ((ids t).map fun r => (L.filterMap (er r)).length).sum = 2 * L.length := by
  intro L
  induction L with
  | nil => intro _; simp; induction (ids t) <;> simp_all
  | cons l L ih =>
   intro h
   have ih := ih fun x hx => h x (by simp [hx])
   obtain ⟨hA, hB, hlt⟩ := h l (by simp)
   have e2 : ∀ r, ((l :: L).filterMap (er r)).length = (if r = l.A then 1 else 0) + (if r = l.B then 1 else 0) + (L.filterMap (er r)).length := fun r => by
    unfold er
    by_cases h1 : r = l.A
    ·subst h1
     have : ¬ l.A = l.B := by omega
     rw [List.filterMap_cons_some (b := l.B) (by simp)]
     simp [this]; omega
    ·by_cases h2 : r = l.B
     ·subst h2
      rw [List.filterMap_cons_some (b := l.A) (by simp [h1])]
      simp [h1]; omega
     ·rw [List.filterMap_cons_none (by simp [h1, h2])]
      simp [h1, h2]
   simp only [e2]
   have cnt : ∀ (I : List Int) (x : Int), I.Nodup → x ∈ I → (I.map fun r => if r = x then 1 else 0).sum = 1 := by
    intro I x
    induction I with
    | nil => intro _ h; cases h
    | cons a I ih2 =>
     intro hn hx
     rw [List.nodup_cons] at hn
     simp only [List.map_cons, List.sum_cons]
     by_cases e3 : a = x
     ·subst e3
      have : (I.map fun r => if r = a then 1 else 0).sum = 0 := by
       have h0 : ∀ J : List Int, a ∉ J → (J.map fun r => if r = a then 1 else 0).sum = 0 := by
        intro J
        induction J with
        | nil => intro _; rfl
        | cons b J ih4 =>
         intro hb
         simp only [List.mem_cons, not_or] at hb
         simp only [List.map_cons, List.sum_cons, ih4 hb.2, if_neg (Ne.symm hb.1)]
       exact h0 I hn.1
      rw [if_pos rfl, this]
     ·rcases List.mem_cons.1 hx with rfl | hx
      ·exact absurd rfl e3
      ·rw [if_neg e3, ih2 hn.2 hx]
   have sum3 : ∀ (I : List Int) (f g k : Int → Nat), (I.map fun r => f r + g r + k r).sum = (I.map f).sum + (I.map g).sum + (I.map k).sum := by
    intro I f g k
    induction I with
    | nil => rfl
    | cons a I ih3 => simp only [List.map_cons, List.sum_cons, ih3]; omega
   rw [sum3 (ids t) (fun r => if r = l.A then 1 else 0) (fun r => if r = l.B then 1 else 0) (fun r => (L.filterMap (er r)).length), cnt _ _ hnd hA, cnt _ _ hnd hB, ih, List.length_cons]
   omega
 exact key t.Links fun l hl => ⟨pV.2 (hv.ends l hl).1, pV.2 (hv.ends l hl).2, hv.lt l hl⟩
theorem aaI {t : aj} (hv : Vt t) : (dJ t).length = t.ay.length + 2 * t.Links.length := by
 rw [← aiw hv, dJ, List.length_flatMap]
 have : ∀ I : List Int, (I.map fun r => (fB t r).length).sum = I.length + (I.map fun r => (jU t r).length).sum := by
  intro I
  induction I with
  | nil => rfl
  | cons a I ih =>
   have hr : (fB t a).length = 1 + (jU t a).length := by simp [fB]; omega
   simp only [List.map_cons, List.sum_cons, ih, List.length_cons, hr]; omega
 rw [this, show (ids t).length = t.ay.length by simp [ids]]
def ku (t : aj) (n : Int) : aB × Int :=
 if iL t = 0 then bif !nG n then (aB.mk 0 [], 2) else if n < ((dJ t).length : Int) then (aB.mk 0 [], 3) else (aB.mk n (fc 0 (dJ t)), 0) else (aB.mk 0 [], 1)
theorem ym {t : aj} (hv : Vt t) : (dJ t).length ≤ 144 := by
 rw [aaI hv]; have := hv.nr; have := hv.nl; omega
/-- what is pK with its number -/
theorem aaJ {α : Type} {β : Type} (f : α → Int × Int × Int) {B : Int → α → (List ai → Option β) → List ai → Option β} {K : List ai → Option β}
  (hB : ∀ j x Z (s : List ai), s.length < 1000 → B j x Z s = Z (s ++ [ai.mk (s.length : Int) (f x).1 (f x).2.1 (f x).2.2])) : ∀ (l : List α) (j : Nat) (s : List ai), s.length + l.length ≤ 1000 → bn l j B K s = K (s ++ fc s.length (l.map f))
 | [], _, s, _ => by simp [bn, fc]
 | x :: r, j, s, h => by
  simp only [List.length_cons] at h
  simp only [bn]
  rw [hB _ _ _ _ (by omega), aaJ f hB r (j + 1) _ (by simp; omega)]
  simp only [List.length_append, List.length_singleton, List.map_cons, fc, List.append_assoc, List.singleton_append]
/-- rows bw are pK one after the other -/
theorem adl {α : Type} {β : Type} (f : α → List (Int × Int × Int)) {L : List α} {B : Int → α → (List ai → Option β) → List ai → Option β} {K : List ai → Option β} (hL : (L.flatMap f).length ≤ 900)
  (hB : ∀ j x Z (s : List ai), x ∈ L → s.length + (f x).length ≤ 900 → B j x Z s = Z (s ++ fc s.length (f x))) : bn L 0 B K [] = K (fc 0 (L.flatMap f)) := by
 refine (mU (L := L) (fun p s => s = fc 0 (p.flatMap f)) (fun p l => K (fc 0 (L.flatMap f))) (fun s hs => by rw [hs]) (fun p x r s Z h hi hZ => ?_) L [] [] rfl rfl)
 subst hi
 have hlen : (fc 0 (p.flatMap f)).length + (f x).length ≤ 900 := by
  rw [lS]
  have : (L.flatMap f).length = (p.flatMap f).length + ((f x).length + (r.flatMap f).length) := by rw [← h]; simp
  omega
 rw [hB _ _ _ _ (by rw [← h]; simp) hlen]
 refine hZ _ ?_
 rw [List.flatMap_append, uq, lS]
 simp
theorem yo (t : aj) (n : Int) : kP t n = some (ku t n) := by
 unfold kP ku ja
 simp only [qg, aL]
 by_cases hc : iL t = 0
 ·have hv := pq.1 hc
  have hk := ym hv
  simp only [hc, decide_true, Bool.not_true, cond_false, if_true]
  show (bif !nG n then _ else _) = _
  cases nG n
  ·rfl
  simp only [Bool.not_true, cond_false]
  have e : dJ t = t.ay.flatMap fun r => fB t r.ID := by unfold dJ ids; rw [List.flatMap_map]
  refine (adl (fun r : aN => fB t r.ID) (by rw [← e]; omega) (fun j x Z s hx hs => ?_)).trans ?_
  ·simp only [fB, List.length_cons, List.length_map] at hs
   rw [uf (by omega), aL, yR, aL, if_pos hc]
   refine (aaJ (fun q : Int => (x.ID, (1:Int), q)) (fun j q Z s hs => by rw [uf (by omega), aL]) _ _ _ (by simp; omega)).trans ?_
   simp only [List.append_assoc, fB, fc, List.length_append, List.length_singleton, List.singleton_append]
  ·rw [← e, lS]
   by_cases hn : n < ((dJ t).length : Int)
   ·simp [hn]
   ·simp [hn]
 ·simp [hc]
theorem aaK (t : aj) (n : Int) : ga t n = some (ku t n) := by
 unfold ga ku fA
 simp only [vp, aL]
 by_cases hc : iL t = 0
 ·have hv := pq.1 hc
  have hk := ym hv
  have hr := hv.nr; have hl := hv.nl
  simp only [hc, decide_true, Bool.not_true, cond_false, if_true]
  show (bif !nG n then _ else _) = _
  cases nG n
  ·rfl
  simp only [Bool.not_true, cond_false]
  rw [dA (n := 2 * (t.Links.length : Int)) (by omega) (by omega), dA (by omega) (by omega)]
  have ekl : ((t.ay.length : Int) + 2 * (t.Links.length : Int)) = ((dJ t).length : Int) := by rw [aaI hv]; omega
  rw [ekl]
  by_cases hn : n < ((dJ t).length : Int)
  ·simp [hn]
  ·rw [decide_eq_false hn, cond_false, if_neg hn]
   have e : dJ t = t.ay.flatMap fun r => fB t r.ID := by unfold dJ ids; rw [List.flatMap_map]
   refine (mU (L := t.ay) (fun p (sg : Int × List ai) => sg = (n, fc 0 (p.flatMap fun r => fB t r.ID))) (fun p l => some (aB.mk n (fc 0 (dJ t)), (0:Int))) (fun s hs => by rw [hs, e]) (fun p x r s Z h hi hZ => ?_) t.ay [] (n, []) rfl rfl)
   subst hi
   have hlen : (fc 0 (p.flatMap fun r => fB t r.ID)).length + (fB t x.ID).length ≤ 144 := by
    rw [lS]
    have : (dJ t).length = (p.flatMap fun r => fB t r.ID).length + ((fB t x.ID).length + (r.flatMap fun r => fB t r.ID).length) := by rw [e, ← h]; simp
    omega
   generalize hm : fc 0 (p.flatMap fun r => fB t r.ID) = m at hlen
   have hml : m.length = (p.flatMap fun r => fB t r.ID).length := by rw [← hm, lS]
   simp only [fB, List.length_cons, List.length_map] at hlen
   simp only [iB]
   rw [uf (by omega), aL, aL, yS, aL, if_pos hc]
   refine (mU (L := jU t x.ID) (fun q (sg : Int × List ai) => sg = (n, m ++ fc m.length ((x.ID, (3:Int), x.ID) :: q.map fun y => (x.ID, (1:Int), y)))) (fun q l => some (aB.mk n (fc 0 (dJ t)), (0:Int))) (fun s hs => ?_) (fun q y r2 s Z2 h2 hi2 hZ2 => ?_) (jU t x.ID) [] _ rfl rfl)
   ·subst hs
    refine hZ _ ?_
    simp only [Prod.mk.injEq, true_and]
    rw [List.flatMap_append, uq, hm, Nat.zero_add, ← hml]
    simp [fB]
   ·subst hi2
    have hq : q.length < (jU t x.ID).length := by rw [← h2]; simp
    simp only
    rw [uf (by simp [lS]; omega), aL, aL]
    refine hZ2 _ ?_
    simp only [Prod.mk.injEq, true_and, List.map_append, List.map_cons, List.map_nil]
    rw [← List.cons_append, uq]
    simp [fc, lS, Nat.add_assoc, Nat.add_comm, Nat.add_left_comm]
 ·simp [hc]
/-! ## yU bw fit -/
structure acm (t : aj) (a : ai) : Prop where
 r : a.aT ∈ ids t
 q : a.To ∈ ids t
 k : (a.Kind = 3 ∧ a.To = a.aT) ∨ (a.Kind = 1 ∧ kZ t a.aT a.To = true) ∨ (a.Kind = 2 ∧ a.To ≠ a.aT)
/-- afp from a number on, each of sZ kind -/
structure EL (t : aj) (n : Nat) (m : List ai) : Prop where
 bit : ∀ i a, m[i]? = some a → a.Bit = ((n + i : Nat) : Int)
 ok : ∀ a ∈ m, acm t a
 dup : m.Pairwise fun a b => tgA a ≠ tgA b
theorem EL.nil (t : aj) (n : Nat) : EL t n [] := ⟨by simp, by simp, by simp⟩
theorem EL.add {t : aj} {m : List ai} (h : EL t 0 m) {x : ai} (hb : x.Bit = m.length) (hx : acm t x) (hd : ∀ a ∈ m, tgA a ≠ tgA x) : EL t 0 (m ++ [x]) := by
 refine ⟨fun i a hi => ?_, fun a ha => ?_, List.pairwise_append.2 ⟨h.dup, by simp, fun a ha b hb => ?_⟩⟩
 ·rw [List.getElem?_append] at hi
  split at hi
  ·exact h.bit i a hi
  ·rename_i hlt
   have e : i = m.length := by
    have := (List.getElem?_eq_some_iff.1 hi).1; simp at this; omega
   subst e; simp at hi; subst hi; rw [hb]; simp
 ·rcases List.mem_append.1 ha with ha | ha
  ·exact h.ok a ha
  ·simp at ha; subst ha; exact hx
 ·simp at hb; subst hb; exact hd a ha
theorem EL.take {t : aj} {n k : Nat} {m : List ai} (h : EL t n m) : EL t n (m.take k) :=
 ⟨fun i a hi => h.bit i a (by rw [List.getElem?_take] at hi; split at hi; exact hi; cases hi), fun a ha => h.ok a (List.mem_of_mem_take ha), h.dup.sublist (List.take_sublist k m)⟩
/-- valid, and belonging to the xm -/
structure Ef (t : aj) (e : aB) : Prop where
 v : Ve e
 ok : ∀ a ∈ e.List, acm t a
theorem EL.ef {t : aj} {n : Nat} {m : List ai} {len : Int} (hv : Vt t) (h : EL t n m) (hl : len = 8 ∨ len = 16 ∨ len = 32 ∨ len = 64) (hm : (n : Int) + m.length ≤ len) : Ef t (aB.mk len m) := by
 have asc : m.Pairwise fun a b => a.Bit < b.Bit := List.pairwise_iff_getElem.2 fun i j hi hj hij => by
  have h1 := h.bit i _ (List.getElem?_eq_getElem hi); have h2 := h.bit j _ (List.getElem?_eq_getElem hj)
  omega
 refine ⟨⟨hl, fun a ha => ?_, fun a ha => ?_, fun a ha => ?_, asc, h.dup⟩, h.ok⟩
 ·obtain ⟨i, hi⟩ := List.getElem?_of_mem ha
  have hb := h.bit i a hi
  have hlt : i < m.length := (List.getElem?_eq_some_iff.1 hi).1
  exact ⟨by omega, by simp only; omega, uo hv (h.ok a ha).r, uo hv (h.ok a ha).q⟩
 ·have := (h.ok a ha).k; omega
 ·rcases (h.ok a ha).k with ⟨h1, h2⟩ | ⟨h1, h2⟩ | ⟨h1, h2⟩
  ·simp [h1, h2]
  ·have := alz hv h2
   simp [h1, Ne.symm this]
  ·simp [h1, h2]
theorem Ef.fits {t : aj} {e : aB} (hv : Vt t) (h : Ef t e) : wh e t = 0 := by
 unfold wh
 rw [if_pos (jV.2 h.v), if_pos (pq.2 hv)]
 have h1 : e.List.any (fun a => !hasB t a.aT || !hasB t a.To) = false := any_false.2 fun a ha => by
  rw [pV.1 (h.ok a ha).r, pV.1 (h.ok a ha).q]; rfl
 have h2 : e.List.any (fun a => decide (a.Kind = 1) && !(jq t a.aT a.To).2) = false := any_false.2 fun a ha => by
  rw [zn]
  rcases (h.ok a ha).k with ⟨h1, _⟩ | ⟨h1, h2⟩ | ⟨h1, _⟩
  ·simp [h1]
  ·simp [h2]
  ·simp [h1]
 rw [h1, h2]; rfl
theorem xE {t : aj} (hv : Vt t) {r k q : Int} : (r, k, q) ∈ dJ t ↔ r ∈ ids t ∧ ((k = 3 ∧ q = r) ∨ (k = 1 ∧ kZ t r q = true)) := by
 unfold dJ fB
 simp only [List.mem_flatMap, List.mem_cons, List.mem_map, Prod.mk.injEq, vv hv]
 constructor
 ·rintro ⟨a, ha, ⟨rfl, rfl, rfl⟩ | ⟨b, hb, rfl, rfl, rfl⟩⟩
  ·exact ⟨ha, .inl ⟨rfl, rfl⟩⟩
  ·exact ⟨ha, .inr ⟨rfl, hb⟩⟩
 ·rintro ⟨ha, ⟨rfl, rfl⟩ | ⟨rfl, hb⟩⟩
  ·exact ⟨q, ha, .inl ⟨rfl, rfl, rfl⟩⟩
  ·exact ⟨r, ha, .inr ⟨q, hb, rfl, rfl, rfl⟩⟩
theorem acn {t : aj} (hv : Vt t) : (dJ t).Nodup := by
 unfold dJ
 refine List.pairwise_flatMap.2 ⟨fun r _ => ?_, ?_⟩
 ·show (fB t r).Nodup
  unfold fB
  rw [List.nodup_cons]
  refine ⟨fun h => ?_, ?_⟩
  ·obtain ⟨x, _, hx⟩ := List.mem_map.1 h; cases hx
  ·exact List.Pairwise.map _ (fun a b (hab : a < b) he => by simp at he; omega) (xx hv r)
 ·refine (aav hv).imp fun {a b} hab => ?_
  intro x hx y hy hxy
  subst hxy
  have e1 : x.1 = a := by
   rcases List.mem_cons.1 hx with rfl | hx
   ·rfl
   ·obtain ⟨_, _, rfl⟩ := List.mem_map.1 hx; rfl
  have e2 : x.1 = b := by
   rcases List.mem_cons.1 hy with rfl | hy
   ·rfl
   ·obtain ⟨_, _, rfl⟩ := List.mem_map.1 hy; rfl
  omega
theorem aix {t : aj} (hv : Vt t) : EL t 0 (fc 0 (dJ t)) := by
 refine ⟨fun i a hi => (r9 _ _ _ _ hi).1, fun a ha => ?_, ?_⟩
 ·obtain ⟨h1, h2⟩ := (xE hv).1 (afq ha).1
  rcases h2 with ⟨h2, h3⟩ | ⟨h2, h3⟩
  ·exact ⟨h1, by rw [h3]; exact h1, .inl ⟨h2, h3⟩⟩
  ·exact ⟨h1, nt hv h3, .inr (.inl ⟨h2, h3⟩)⟩
 ·refine List.pairwise_iff_getElem.2 fun i j hi hj hij he => ?_
  have h1 := (r9 _ _ _ _ (List.getElem?_eq_getElem hi)).2; have h2 := (r9 _ _ _ _ (List.getElem?_eq_getElem hj)).2
  simp only [tgA, aG.mk.injEq] at he
  obtain ⟨q1, e1⟩ := List.getElem?_eq_some_iff.1 h1
  obtain ⟨q2, e2⟩ := List.getElem?_eq_some_iff.1 h2
  have := List.pairwise_iff_getElem.1 (acn hv) i j q1 q2 hij
  exact this (by rw [e1, e2, he.1, he.2.1, he.2.2])
end Go.Proofs.Ytmfehenfoepkfaa
