/- Several texts in one. No condition but those that stand in each. -/
import Derived.Test.YtdjeacigeegklaaPM
import Derived.Test.YtdjeacigeegklaaDA
import Derived.Test.YtdjeacigeegklaaDL
/- Plain: the tL aY the tape aoF yy mistakes are valid. No condition. -/
namespace Go.Proofs.Ytdjeacigeegklaa
set_option linter.all false
open Go
end Go.Proofs.Ytdjeacigeegklaa

/- Walks yt weighted links, and the least eM. No condition but bL aY stand in each. -/
namespace Go.Proofs.Ytdjeacigeegklaa
set_option linter.all false
open Go
abbrev Cst := Int → Int → Option Int
def Pos (c : Cst) : Prop := ∀ x y k, c x y = some k → 1 ≤ k
def tM (c : Cst) : Cst := fun x y => c y x
theorem Pos.rev {c : Cst} (h : Pos c) : Pos (tM c) := fun x y k hk => h y x k hk
/-- a walk from a, with what it eM -/
inductive Wk (c : Cst) (a : Int) : Int → Int → Prop
 | nil : Wk c a a 0
 | snoc {x b m k : Int} : Wk c a x m → c x b = some k → Wk c a b (m + k)
theorem Wk.aas {c : Cst} (hc : Pos c) {a b m : Int} (h : Wk c a b m) : 0 ≤ m := by
 induction h with
 | nil => omega
 | snoc _ hk ih => have := hc _ _ _ hk; omega
theorem Wk.trans {c : Cst} {a x b m n : Int} (h : Wk c a x m) (h' : Wk c x b n) : Wk c a b (m + n) := by
 induction h' with
 | nil => simpa using h
 | snoc _ hk ih => rw [← Int.add_assoc]; exact .snoc ih hk
theorem Wk.one {c : Cst} {a b k : Int} (h : c a b = some k) : Wk c a b k := by have := Wk.snoc (.nil : Wk c a a 0) h; simpa using this
theorem Wk.rev {c : Cst} {a b m : Int} (h : Wk c a b m) : Wk (tM c) b a m := by
 induction h with
 | nil => exact .nil
 | @snoc x b m k _ hk ih =>
  have h1 : Wk (tM c) b x k := .one hk
  have := h1.trans ih
  rwa [Int.add_comm] at this
theorem Wk.agL {c : Cst} {a b m : Int} (h : Wk (tM c) a b m) : Wk c b a m := h.rev
def IsD (c : Cst) (a b k : Int) : Prop := Wk c a b k ∧ ∀ m, Wk c a b m → k ≤ m
theorem IsD.uniq {c : Cst} {a b k m : Int} (h : IsD c a b k) (h' : IsD c a b m) : k = m := by
 have := h.2 _ h'.1; have := h'.2 _ h.1; omega
theorem aon {c : Cst} (hc : Pos c) {a b m : Int} (h : Wk c a b m) : ∃ k, IsD c a b k ∧ k ≤ m := by
 have key : ∀ (n : Nat) (m : Int), m.toNat = n → Wk c a b m → ∃ k, IsD c a b k ∧ k ≤ m := by
  intro n
  induction n using Nat.strongRecOn with
  | _ n ih =>
   intro m hn h
   by_cases hmin : ∀ m', Wk c a b m' → m ≤ m'
   ·exact ⟨m, ⟨h, hmin⟩, Int.le_refl _⟩
   ·have hmin : ∃ m', Wk c a b m' ∧ ¬ m ≤ m' := by
     refine Classical.byContradiction fun hn => hmin fun m' h => ?_
     by_cases hle : m ≤ m'
     ·exact hle
     ·exact absurd ⟨m', h, hle⟩ hn
    obtain ⟨m', h1, h2⟩ := hmin
    have h3 := h1.aas hc
    obtain ⟨k, k1, k2⟩ := ih m'.toNat (by omega) m' rfl h1
    exact ⟨k, k1, by omega⟩
 exact key _ m rfl h
open Classical in
noncomputable def dst (c : Cst) (a b : Int) : Option Int := if h : ∃ k, IsD c a b k then some (Classical.choose h) else none
theorem iR {c : Cst} {a b k : Int} : dst c a b = some k ↔ IsD c a b k := by
 unfold dst
 constructor
 ·intro h
  split at h
  ·rename_i hx
   cases h
   exact Classical.choose_spec hx
  ·cases h
 ·intro h
  rw [dif_pos ⟨k, h⟩]
  exact congrArg some ((Classical.choose_spec (⟨k, h⟩ : ∃ k, IsD c a b k)).uniq h)
theorem afE {c : Cst} (hc : Pos c) {a b : Int} : dst c a b = none ↔ ∀ m, ¬ Wk c a b m := by
 constructor
 ·intro h m hm
  obtain ⟨k, h1, _⟩ := aon hc hm
  rw [iR.2 h1] at h; cases h
 ·intro h
  cases hd : dst c a b with
  | none => rfl
  | some k => exact absurd (iR.1 hd).1 (h k)
theorem acg {c : Cst} (hc : Pos c) {a b k : Int} (h : dst c a b = some k) : 0 ≤ k := (iR.1 h).1.aas hc
theorem abh {c : Cst} {a b k : Int} : IsD (tM c) a b k ↔ IsD c b a k :=
 ⟨fun h => ⟨h.1.agL, fun m hm => h.2 m hm.rev⟩, fun h => ⟨h.1.rev, fun m hm => h.2 m hm.agL⟩⟩
theorem yJ {c : Cst} (a b : Int) : dst (tM c) a b = dst c b a := by
 cases h : dst c b a with
 | some k => exact iR.2 (abh.2 (iR.1 h))
 | none =>
  cases h' : dst (tM c) a b with
  | none => rfl
  | some k => rw [iR.2 (abh.1 (iR.1 h'))] at h; cases h
theorem afF {c : Cst} {a b k : Int} (h : dst c a b = some k) (hne : a ≠ b) : ∃ x w m, dst c a x = some m ∧ c x b = some w ∧ k = m + w := by
 obtain ⟨h1, h2⟩ := iR.1 h
 cases h1 with
 | nil => exact absurd rfl hne
 | @snoc x b m w hx hw => exact ⟨x, w, m, iR.2 ⟨hx, fun m' h' => by have := h2 _ (.snoc h' hw); omega⟩, hw, rfl⟩
theorem adk {c : Cst} {a b k : Int} (h : dst c a b = some k) (hne : a ≠ b) : ∃ x w m, c a x = some w ∧ dst c x b = some m ∧ k = w + m := by
 rw [← yJ] at h
 obtain ⟨x, w, m, h1, h2, h3⟩ := afF h (Ne.symm hne)
 rw [yJ] at h1
 exact ⟨x, w, m, h2, h1, by omega⟩
/-! ## the links of a o8 -/
def lkC (t : aa) : Cst := fun x y => if kW t x y then some (jq t x y).1 else none
theorem zu {t : aa} (hv : Vt t) {x y : Int} (h : kW t x y = true) : 1 ≤ (jq t x y).1 ∧ (jq t x y).1 ≤ 1000 := by
 obtain ⟨l, h1, h2⟩ := jH.1 h
 have he : dX l x y = true := by simp [dX]; exact h2
 rw [j8 hv h1 he]
 have := hv.okl l h1
 simp only [pZ, Bool.or_eq_false_iff, Bool.not_eq_false', rX, Bool.and_eq_true, decide_eq_true_eq] at this
 unfold iM
 by_cases hb : (decide (l.A = x) && decide (l.B = y)) = true
 ·simp only [hb, cond_true]; omega
 ·simp only [Bool.not_eq_true] at hb; simp only [hb, cond_false]; omega
theorem akG {t : aa} (hv : Vt t) : Pos (lkC t) := fun x y k h => by
 unfold lkC at h
 split at h
 ·rename_i ha; cases h; exact (zu hv ha).1
 ·cases h
theorem mz {t : aa} {x y k : Int} : lkC t x y = some k ↔ kW t x y = true ∧ (jq t x y).1 = k := by
 unfold lkC
 split
 ·rename_i h; simp [h]
 ·rename_i h; simp [h]
theorem x6 {t : aa} (hv : Vt t) {x y k : Int} (h : lkC t x y = some k) : 1 ≤ k ∧ k ≤ 1000 := by
 obtain ⟨h1, rfl⟩ := mz.1 h; exact zu hv h1
theorem qu {t : aa} (hv : Vt t) {x y k : Int} (h : lkC t x y = some k) : x ∈ ids t ∧ y ∈ ids t := by
 obtain ⟨h1, _⟩ := mz.1 h; exact ⟨qt hv (aar h1), qt hv h1⟩
theorem Wk.ids {t : aa} (hv : Vt t) {a b m : Int} (h : Wk (lkC t) a b m) (ha : a ∈ ids t) : b ∈ ids t := by
 cases h with
 | nil => exact ha
 | snoc _ hk => exact (qu hv hk).2
end Go.Proofs.Ytdjeacigeegklaa

/- abP the uF search comes to: the least eM. No condition but bL aY stand in each. -/
namespace Go.Proofs.Ytdjeacigeegklaa
set_option linter.all false
open Go
/-! ## maps as lists -/
def KN {α : Type} (l : List (Int × α)) : Prop := (l.map (·.1)).Nodup
theorem afG {α : Type} {l : List (Int × α)} {n : Int} {v : α} (h : aD l n = some v) : (n, v) ∈ l := by
 induction l with
 | nil => simp [aD] at h
 | cons p r ih =>
  rw [dM] at h
  split at h
  ·rename_i hp; cases h; subst hp; exact List.mem_cons_self
  ·exact List.mem_cons_of_mem _ (ih h)
theorem xq {α : Type} {l : List (Int × α)} {n : Int} {v : α} (hk : KN l) (h : (n, v) ∈ l) : aD l n = some v := by
 induction l with
 | nil => simp at h
 | cons p r ih =>
  simp only [KN, List.map_cons, List.nodup_cons] at hk
  rw [dM]
  rcases List.mem_cons.1 h with rfl | h
  ·rw [if_pos rfl]
  ·have : p.1 ≠ n := fun e => hk.1 (by rw [e]; exact List.mem_map.2 ⟨_, h, rfl⟩)
   rw [if_neg this]; exact ih hk.2 h
theorem jr {α : Type} {l : List (Int × α)} {n : Int} : (aD l n).isSome = true ↔ n ∈ l.map (·.1) := by
 induction l with
 | nil => simp [aD]
 | cons p r ih =>
  rw [dM]
  by_cases hp : p.1 = n
  ·simp [hp]
  ·rw [if_neg hp, ih]; simp [Ne.symm hp]
theorem afH {α : Type} {l : List (Int × α)} {n m : Int} {v : α} : m ∈ (bB l n v).map (·.1) ↔ m = n ∨ m ∈ l.map (·.1) := by
 rw [← jr, ← jr, eC]
 by_cases h : m = n <;> simp [h]
theorem nS {α : Type} {l : List (Int × α)} {n : Int} {v : α} (hk : KN l) : KN (bB l n v) := by
 induction l with
 | nil => simp [bB, KN]
 | cons p r ih =>
  simp only [KN, List.map_cons, List.nodup_cons] at hk
  simp only [bB]
  split
  ·rename_i hp; subst hp; simp only [KN, List.map_cons, List.nodup_cons]; exact hk
  ·rename_i hp
   simp only [KN, List.map_cons, List.nodup_cons]
   refine ⟨fun hm => ?_, ih hk.2⟩
   rcases afH.1 hm with h | h
   ·exact hp h
   ·exact hk.1 h
theorem xu {α : Type} {l : List (Int × α)} {n : Int} (hk : KN l) (m : Int) : aD (lT l n) m = if m = n then none else aD l m := by
 induction l with
 | nil => simp [lT, aD]
 | cons p r ih =>
  simp only [KN, List.map_cons, List.nodup_cons] at hk
  simp only [lT]
  by_cases hp : p.1 = n
  ·rw [if_pos hp]
   by_cases hm : m = n
   ·rw [if_pos hm]
    cases hg : aD r m with
    | none => rfl
    | some v => exact absurd (jr.1 (by rw [hg]; rfl)) (by rw [hm, ← hp]; exact hk.1)
   ·rw [if_neg hm, dM, if_neg (fun e => hm (by rw [← e, hp]))]
  ·rw [if_neg hp, dM, dM, ih hk.2]
   by_cases hm : p.1 = m
   ·rw [if_pos hm, if_pos hm, if_neg (fun e => hp (by rw [hm, e]))]
   ·rw [if_neg hm, if_neg hm]
theorem akH {α : Type} {l : List (Int × α)} {n : Int} (hk : KN l) : KN (lT l n) := by
 induction l with
 | nil => exact hk
 | cons p r ih =>
  simp only [KN, List.map_cons, List.nodup_cons] at hk
  simp only [lT]
  split
  ·exact hk.2
  ·rename_i hp
   simp only [KN, List.map_cons, List.nodup_cons]
   refine ⟨fun hm => hk.1 ?_, ih hk.2⟩
   have := jr.2 hm
   rw [xu hk.2] at this
   split at this
   ·cases this
   ·exact jr.1 this
theorem KN.len {α : Type} {l : List (Int × α)} {V : List Int} (hk : KN l) (h : ∀ n v, aD l n = some v → n ∈ V) : l.length ≤ V.length := by
 have := si hk fun x hx => by
  obtain ⟨v, hv⟩ := Option.isSome_iff_exists.1 (jr.2 hx)
  exact h x v hv
 simpa using this
theorem KN.all {α : Type} {l : List (Int × α)} {V : List Int} (hk : KN l) (hV : V.Nodup) (h : ∀ n v, aD l n = some v → n ∈ V) (he : V.length ≤ l.length) {x : Int} (hx : x ∈ V) : (aD l x).isSome = true := by
 refine Classical.byContradiction fun hn => ?_
 have h1 : ∀ y ∈ l.map (·.1), y ∈ V.erase x := fun y hy => by
  obtain ⟨v, hv⟩ := Option.isSome_iff_exists.1 (jr.2 hy)
  refine (List.mem_erase_of_ne fun e => hn ?_).2 (h y v hv)
  rw [← e, hv]; rfl
 have h2 := si hk h1
 rw [List.length_map, List.length_erase_of_mem hx] at h2
 have := List.length_pos_of_mem hx
 omega
/-! ## the least entry -/
def zK (m : List (Int × Int)) (n v b : Int) : Bool := ((decide (b = (0:Int))) || ((decide (v < ((aD m b).getD (0:Int)))) || ((decide (v = ((aD m b).getD (0:Int)))) && (decide (n < b)))))
def x7 (m : List (Int × Int)) : Int → Int → Int → Option Int := fun n v b => bif zK m n v b then some n else some b
theorem zv {m : List (Int × Int)} (h0 : ∀ n v, aD m n = some v → n ≠ 0) : ∀ (l : List (Int × Int)) (s : Int), (∀ p ∈ l, aD m p.1 = some p.2) → (s = 0 ∨ ∃ k, aD m s = some k) →
  ∃ b, gI (x7 m) l s = some b ∧ (b = s ∨ ∃ v, (b, v) ∈ l) ∧ (l ≠ [] → b ≠ 0) ∧ (s ≠ 0 → b ≠ 0) ∧ ∀ n v, ((n, v) ∈ l ∨ (n = s ∧ s ≠ 0 ∧ aD m s = some v)) → ∀ k, aD m b = some k → k < v ∨ (k = v ∧ b ≤ n)
 | [], s, _, hs => ⟨s, rfl, .inl rfl, by simp, id, fun n v h k hk => by
   rcases h with h | ⟨rfl, _, h⟩
   ·simp at h
   ·rw [hk] at h; cases h; exact .inr ⟨rfl, Int.le_refl _⟩⟩
 | (n, v) :: r, s, hl, hs => by
  have hn := hl (n, v) (by simp)
  have hnz := h0 n v hn
  -- what the entry is measured by
  have step : ∃ s', x7 m n v s = some s' ∧ (s' = n ∨ s' = s) ∧ s' ≠ 0 ∧ (∀ k, aD m s' = some k → k < v ∨ (k = v ∧ s' ≤ n)) ∧ (s ≠ 0 → ∀ w, aD m s = some w → ∀ k, aD m s' = some k → k < w ∨ (k = w ∧ s' ≤ s)) := by
   unfold x7
   cases hb : zK m n v s with
   | true =>
    refine ⟨n, rfl, .inl rfl, hnz, fun k hk => by rw [hn] at hk; cases hk; exact .inr ⟨rfl, Int.le_refl _⟩, fun hs0 w hw k hk => ?_⟩
    rw [hn] at hk; cases hk
    simp only [zK, hw, Option.getD_some, Bool.or_eq_true, Bool.and_eq_true, decide_eq_true_eq] at hb
    rcases hb with hb | hb | ⟨hb, hb2⟩
    ·exact absurd hb hs0
    ·exact .inl hb
    ·exact .inr ⟨hb, by omega⟩
   | false =>
    simp only [zK, Bool.or_eq_false_iff, Bool.and_eq_false_iff, decide_eq_false_iff_not] at hb
    obtain ⟨b1, b2, b3⟩ := hb
    refine ⟨s, rfl, .inr rfl, b1, fun k hk => ?_, fun _ w hw k hk => by rw [hw] at hk; cases hk; exact .inr ⟨rfl, Int.le_refl _⟩⟩
    rw [hk] at b2 b3
    simp only [Option.getD_some] at b2 b3
    by_cases hkv : k = v
    ·refine .inr ⟨hkv, ?_⟩
     rcases b3 with b3 | b3
     ·exact absurd hkv.symm b3
     ·omega
    ·exact .inl (by omega)
  obtain ⟨s', e1, e2, e3, e4, e5⟩ := step
  have hs' : s' = 0 ∨ ∃ k, aD m s' = some k := by
   rcases e2 with rfl | rfl
   ·exact .inr ⟨v, hn⟩
   ·exact hs
  obtain ⟨b, q1, q2, q3, q4, q5⟩ := zv h0 r s' (fun p hp => hl p (by simp [hp])) hs'
  refine ⟨b, by simp only [gI, e1]; exact q1, ?_, fun _ => q4 e3, fun _ => q4 e3, fun n' v' h k hk => ?_⟩
  ·rcases q2 with rfl | ⟨w, hw⟩
   ·rcases e2 with rfl | rfl
    ·exact .inr ⟨v, by simp⟩
    ·exact .inl rfl
   ·exact .inr ⟨w, by simp [hw]⟩
  ·-- the chosen one aa3 n', v'
   obtain ⟨ks, hks⟩ := hs'.resolve_left e3
   have hbs := q5 s' ks (.inr ⟨rfl, e3, hks⟩) k hk
   rcases h with h | ⟨rfl, hn0, h⟩
   ·rcases List.mem_cons.1 h with h | h
    ·simp only [Prod.mk.injEq] at h
     obtain ⟨rfl, rfl⟩ := h
     have := e4 ks hks
     omega
    ·exact q5 n' v' (.inl h) k hk
   ·have := e5 hn0 v' h ks hks
    omega
theorem afI {m : List (Int × Int)} (hK : KN m) (h0 : ∀ n v, aD m n = some v → n ≠ 0) (hne : m ≠ []) :
  ∃ b k, aD m b = some k ∧ (∀ n v, aD m n = some v → k < v ∨ (k = v ∧ b ≤ n)) ∧ pJ m (x7 m) 0 = some b := by
 have all : ∀ l' : List (Int × Int), l'.Perm m → ∃ b k, gI (x7 m) l' 0 = some b ∧ aD m b = some k ∧ ∀ n v, aD m n = some v → k < v ∨ (k = v ∧ b ≤ n) := fun l' hl => by
  obtain ⟨b, q1, q2, q3, q4, q5⟩ := zv h0 l' 0 (fun p hp => xq hK (hl.mem_iff.1 hp)) (.inl rfl)
  have hb := q3 fun e => hne (by rw [e] at hl; exact hl.symm.eq_nil)
  rcases q2 with rfl | ⟨k, hk⟩
  ·exact absurd rfl hb
  ·have hg := xq hK (hl.mem_iff.1 hk)
   exact ⟨b, k, q1, hg, fun n v hv => q5 n v (.inl (hl.mem_iff.2 (afG hv))) k hg⟩
 obtain ⟨b, k, h1, h2, h3⟩ := all m (List.Perm.refl m)
 refine ⟨b, k, h2, h3, zh fun l' hl => ?_⟩
 obtain ⟨b', k', g1, g2, g3⟩ := all l' hl
 have e1 := h3 b' k' g2
 have e2 := g3 b k h2
 have : b' = b := by omega
 rw [g1, this]
/-! ## the search -/
structure Gph (links : List (Int × List az)) (V : List Int) (c : Cst) : Prop where
 keys : ∀ x, (aD links x).isSome = true ↔ x ∈ V
 len : links.length = V.length
 nd : V.Nodup
 small : V.length ≤ 24
 nz : ∀ x ∈ V, x ≠ 0
 row : ∀ x y k, (∃ s ∈ (aD links x).getD [], s.to_ = y ∧ s.eY = k) ↔ c x y = some k
 cs : ∀ x y k, c x y = some k → 1 ≤ k ∧ k ≤ 1000
 inV : ∀ x y k, c x y = some k → y ∈ V
structure Dj (V : List Int) (c : Cst) (a : Int) (out opn : List (Int × Int)) : Prop where
 ko : KN out
 kp : KN opn
 oV : ∀ x k, aD out x = some k → x ∈ V ∧ dst c a x = some k ∧ k ≤ 1000 * (out.length : Int)
 pV : ∀ x k, aD opn x = some k → x ∈ V ∧ aD out x = none ∧ Wk c a x k ∧ k ≤ 1000 * (out.length : Int)
 cl : ∀ x k y w, aD out x = some k → c x y = some w → (aD out y).isSome = true ∨ ∃ m, aD opn y = some m ∧ m ≤ k + w
 st : (aD out a).isSome = true ∨ ∃ k, aD opn a = some k ∧ k ≤ 0
theorem Gph.pos {links : List (Int × List az)} {V : List Int} {c : Cst} (h : Gph links V c) : Pos c := fun x y k hk => (h.cs x y k hk).1
/-- a walk ends within, or passes what is open -/
theorem Dj.front {V : List Int} {c : Cst} {a : Int} {out opn : List (Int × Int)} (hc : Pos c) (h : Dj V c a out opn) {z m : Int} (hw : Wk c a z m) : (aD out z).isSome = true ∨ ∃ y k, aD opn y = some k ∧ k ≤ m := by
 induction hw with
 | nil =>
  rcases h.st with q | ⟨k, q1, q2⟩
  ·exact .inl q
  ·exact .inr ⟨a, k, q1, q2⟩
 | @snoc x b m k hx hk ih =>
  have := hc _ _ _ hk
  rcases ih with q | ⟨y, k', q1, q2⟩
  ·obtain ⟨d, hd⟩ := Option.isSome_iff_exists.1 q
   have hle := (iR.1 (h.oV x d hd).2.1).2 _ hx
   rcases h.cl x d b k hd hk with q | ⟨m', q1, q2⟩
   ·exact .inl q
   ·exact .inr ⟨b, m', q1, by omega⟩
  ·exact .inr ⟨y, k', q1, by omega⟩
theorem Dj.done {V : List Int} {c : Cst} {a : Int} {out opn : List (Int × Int)} (hc : Pos c) (h : Dj V c a out opn) (hin : ∀ z m, Wk c a z m → (aD out z).isSome = true) (x : Int) : aD out x = dst c a x := by
 cases hd : dst c a x with
 | some k =>
  obtain ⟨k', hk'⟩ := Option.isSome_iff_exists.1 (hin x k (iR.1 hd).1)
  have := (h.oV x k' hk').2.1
  rw [hd] at this; cases this; exact hk'
 | none =>
  cases ho : aD out x with
  | none => rfl
  | some k => have := (h.oV x k ho).2.1; rw [hd] at this; cases this
theorem aat {n : Int} (h0 : -1000000 ≤ n) (h1 : n ≤ 4000000000) : w64 n = n := by unfold w64; rw [IntKind.wrap_i64]; omega
theorem aoo {links : List (Int × List az)} {V : List Int} {c : Cst} (h : Gph links V c) {a : Int} (ha : a ∈ V) :
  Ok (eG links a) (fun l => KN l ∧ (∀ x, aD l x = dst c a x) ∧ ∀ x k, dst c a x = some k → 0 ≤ k ∧ k ≤ 24000) := by
 have hc := h.pos
 have fin : ∀ out opn, Dj V c a out opn → (∀ z m, Wk c a z m → (aD out z).isSome = true) → KN out ∧ (∀ x, aD out x = dst c a x) ∧ ∀ x k, dst c a x = some k → 0 ≤ k ∧ k ≤ 24000 := fun out opn hD hin => by
  have hd := hD.done hc hin
  refine ⟨hD.ko, hd, fun x k hk => ⟨acg hc hk, ?_⟩⟩
  rw [← hd x] at hk
  have h1 := (hD.oV x k hk).2.2
  have h2 := hD.ko.len (V := V) fun n v hv => (hD.oV n v hv).1
  have := h.small
  omega
 unfold eG
 rw [show (aD links a).isSome = true from (h.keys a).2 ha]
 simp only [Bool.not_true, cond_false]
 refine Ok.jn (fun s => KN s.1 ∧ (∀ x, aD s.1 x = dst c a x) ∧ ∀ x k, dst c a x = some k → 0 ≤ k ∧ k ≤ 24000) (fun s hs => .s hs) fun J hJ => ?_
 refine Ok.whl (fun s => Dj V c a s.1 s.2) (fun s => V.length + 1 - s.1.length) ?_ (by have := h.small; omega) ?_
 ·refine ⟨List.nodup_nil, by simp [KN, bB], fun x k hk => by simp [aD] at hk, fun x k hk => ?_, fun x k y w hk => by simp [aD] at hk, .inr ⟨0, by rw [eC, if_pos rfl], Int.le_refl _⟩⟩
  rw [eC] at hk
  split at hk
  ·rename_i e; subst e; cases hk; exact ⟨ha, rfl, .nil, by simp⟩
  ·simp [aD] at hk
 rintro ⟨out, opn⟩ Z hD hZ
 simp only at hD hZ ⊢
 refine Ok.cs (fun h1 => ?_) fun h1 => ?_
 ·have hne : opn ≠ [] := fun e => by simp [e] at h1
  have h0 : ∀ n v, aD opn n = some v → n ≠ 0 := fun n v hv => h.nz n (hD.pV n v hv).1
  obtain ⟨b, k, hb, hmin, hpk⟩ := afI hD.kp h0 hne
  refine Ok.bnd (P := fun x => x = b) ⟨b, hpk, rfl⟩ fun x hx => ?_
  subst hx
  simp only [hb, Option.getD_some]
  obtain ⟨bV, bo, bw, bk⟩ := hD.pV x k hb
  have bd : dst c a x = some k := iR.2 ⟨bw, fun m hm => by
   rcases hD.front hc hm with q | ⟨y, k', q1, q2⟩
   ·rw [bo] at q; cases q
   ·have := hmin y k' q1; omega⟩
  have hlen : (bB out x k).length = out.length + 1 := afD bo
  have ko2 : KN (bB out x k) := nS hD.ko
  have k0 := bw.aas hc
  -- what is done holds
  have oV2 : ∀ y d, aD (bB out x k) y = some d → y ∈ V ∧ dst c a y = some d ∧ d ≤ 1000 * ((bB out x k).length : Int) := fun y d hy => by
   rw [eC] at hy
   rw [hlen]
   split at hy
   ·rename_i e; subst e; cases hy; exact ⟨bV, bd, by omega⟩
   ·obtain ⟨q1, q2, q3⟩ := hD.oV y d hy
    exact ⟨q1, q2, by omega⟩
  have olen : (bB out x k).length ≤ V.length := ko2.len fun n v hv => (oV2 n v hv).1
  have outs : ∀ y, (aD out y).isSome = true → (aD (bB out x k) y).isSome = true := fun y hy => by
   rw [eC]; split
   ·rfl
   ·exact hy
  refine Ok.cs (fun h2 => hJ _ ?_) fun h2 => ?_
  ·-- all are found
   have h2 : (bB out x k).length = links.length := by have := of_decide_eq_true h2; omega
   have hin : ∀ z ∈ V, (aD (bB out x k) z).isSome = true := fun z hz => ko2.all h.nd (fun n v hv => (oV2 n v hv).1) (by rw [h2, h.len]; exact Nat.le_refl _) hz
   have wV : ∀ z m, Wk c a z m → z ∈ V := fun z m hw => by
    cases hw with
    | nil => exact ha
    | snoc _ hk => exact h.inV _ _ _ hk
   refine fin _ [] ⟨ko2, List.nodup_nil, oV2, fun y d hy => by simp [aD] at hy, fun y d z w hy hw => .inl (hin z (h.inV _ _ _ hw)), .inl (hin a ha)⟩ fun z m hw => hin z (wV z m hw)
  ·refine Ok.vf (L := (aD links x).getD []) (fun p m => KN m ∧ (∀ y d, aD m y = some d → y ∈ V ∧ aD (bB out x k) y = none ∧ Wk c a y d ∧ d ≤ 1000 * ((bB out x k).length : Int)) ∧ (∀ y d, y ≠ x → aD opn y = some d → ∃ d', aD m y = some d' ∧ d' ≤ d) ∧
    ∀ s ∈ p, (aD (bB out x k) s.to_).isSome = true ∨ ∃ d', aD m s.to_ = some d' ∧ d' ≤ k + s.eY) ?_ _ ?_ ?_
   ·rintro p s r m Z2 hL ⟨i1, i2, i3, i4⟩ hZ2
    have hs : s ∈ (aD links x).getD [] := by rw [hL]; simp
    have hcs := (h.row x s.to_ s.eY).1 ⟨s, hs, rfl, rfl⟩
    obtain ⟨c1, c2⟩ := h.cs _ _ _ hcs
    have hw : w64 (k + s.eY) = k + s.eY := aat (by omega) (by have := h.small; omega)
    refine Ok.jn (fun m' => KN m' ∧ (∀ y d, aD m' y = some d → y ∈ V ∧ aD (bB out x k) y = none ∧ Wk c a y d ∧ d ≤ 1000 * ((bB out x k).length : Int)) ∧ (∀ y d, y ≠ x → aD opn y = some d → ∃ d', aD m' y = some d' ∧ d' ≤ d) ∧
     ∀ s' ∈ p ++ [s], (aD (bB out x k) s'.to_).isSome = true ∨ ∃ d', aD m' s'.to_ = some d' ∧ d' ≤ k + s'.eY) (fun m' hm' => hZ2 m' hm') fun J2 hJ2 => ?_
    refine Ok.cs (fun g1 => hJ2 m ⟨i1, i2, i3, fun s' hs' => ?_⟩) fun g1 => Ok.cs (fun g2 => hJ2 _ ?_) fun g2 => hJ2 m ⟨i1, i2, i3, fun s' hs' => ?_⟩
    ·rcases List.mem_append.1 hs' with hs' | hs'
     ·exact i4 s' hs'
     ·rw [List.mem_singleton.1 hs']; exact .inl g1
    ·-- a better way
     rw [hw]
     rw [hw] at g2
     refine ⟨nS i1, fun y d hy => ?_, fun y d hyx hy => ?_, fun s' hs' => ?_⟩
     ·rw [eC] at hy
      split at hy
      ·rename_i e; subst e; cases hy
       refine ⟨h.inV _ _ _ hcs, by simpa using g1, .snoc bw hcs, by rw [hlen]; omega⟩
      ·exact i2 y d hy
     ·obtain ⟨d', q1, q2⟩ := i3 y d hyx hy
      rw [eC]
      by_cases e : y = s.to_
      ·rw [if_pos e]
       refine ⟨_, rfl, ?_⟩
       subst e
       rw [q1] at g2
       simp at g2
       omega
      ·rw [if_neg e]; exact ⟨d', q1, q2⟩
     ·rw [eC m]
      by_cases e : s'.to_ = s.to_
      ·rcases List.mem_append.1 hs' with hs' | hs'
       ·rcases i4 s' hs' with q | ⟨d', q1, q2⟩
        ·exact .inl q
        ·right
         rw [if_pos e]
         refine ⟨_, rfl, ?_⟩
         rw [e] at q1
         rw [q1] at g2
         simp at g2
         omega
       ·rw [List.mem_singleton.1 hs', if_pos rfl]; exact .inr ⟨_, rfl, Int.le_refl _⟩
      ·rw [if_neg e]
       rcases List.mem_append.1 hs' with hs' | hs'
       ·exact i4 s' hs'
       ·exact absurd (by rw [List.mem_singleton.1 hs']) e
    ·rcases List.mem_append.1 hs' with hs' | hs'
     ·exact i4 s' hs'
     ·rw [List.mem_singleton.1 hs']
      right
      rw [hw] at g2
      simp only [Bool.or_eq_false_iff, Bool.not_eq_false', decide_eq_false_iff_not] at g2
      obtain ⟨d', hd'⟩ := Option.isSome_iff_exists.1 g2.1
      refine ⟨d', hd', ?_⟩
      have := g2.2
      rw [hd'] at this
      simp at this
      omega
   ·refine ⟨akH hD.kp, fun y d hy => ?_, fun y d hyx hy => ⟨d, by rw [xu hD.kp, if_neg hyx]; exact hy, Int.le_refl _⟩, fun s hs => by simp at hs⟩
    rw [xu hD.kp] at hy
    split at hy
    ·cases hy
    ·rename_i e
     obtain ⟨q1, q2, q3, q4⟩ := hD.pV y d hy
     exact ⟨q1, by rw [eC, if_neg e]; exact q2, q3, by rw [hlen]; omega⟩
   ·rintro m ⟨i1, i2, i3, i4⟩
    refine hZ _ ⟨ko2, i1, oV2, i2, fun y d z w hy hw => ?_, ?_⟩ (by simp only [hlen]; omega)
    ·rw [eC] at hy
     split at hy
     ·rename_i e; subst e; cases hy
      obtain ⟨s, hs, rfl, rfl⟩ := (h.row _ _ _).2 hw
      exact i4 s hs
     ·rcases hD.cl y d z w hy hw with q | ⟨m', q1, q2⟩
      ·exact .inl (outs z q)
      ·by_cases e : z = x
       ·left; rw [eC, if_pos e]; rfl
       ·obtain ⟨d', r1, r2⟩ := i3 z m' e q1
        exact .inr ⟨d', r1, by omega⟩
    ·rcases hD.st with q | ⟨k', q1, q2⟩
     ·exact .inl (outs a q)
     ·by_cases e : a = x
      ·left; rw [eC, if_pos e]; rfl
      ·obtain ⟨d', r1, r2⟩ := i3 a k' e q1
       exact .inr ⟨d', r1, by omega⟩
 ·-- nothing is open
  have he : opn = [] := by
   have := of_decide_eq_false h1
   exact List.eq_nil_of_length_eq_zero (by omega)
  subst he
  refine hJ _ (fin _ _ hD fun z m hw => ?_)
  rcases hD.front hc hw with q | ⟨y, k, q, _⟩
  ·exact q
  ·simp [aD] at q
theorem akI {links : List (Int × List az)} {a : Int} (ha : (aD links a).isSome = false) : eG links a = some [] := by
 unfold eG
 rw [ha]; rfl
end Go.Proofs.Ytdjeacigeegklaa

/- The graph aY the program reads out of a o8. No condition but bL aY stand in each. -/
namespace Go.Proofs.Ytdjeacigeegklaa
set_option linter.all false
open Go
theorem wk {α : Type} {cf : α → α → Int} (ht : ∀ a b c, cf a b < 0 → cf b c < 0 → cf a c < 0) : ∀ {l : List α}, (l.Pairwise fun a b => cf a b < 0 ∨ cf b a < 0) → (mY cf l).Pairwise fun a b => cf a b < 0
 | [], _ => List.Pairwise.nil
 | x :: r, h => by
  rw [List.pairwise_cons] at h
  have ih := wk ht h.2
  have hx : ∀ y ∈ mY cf r, cf x y < 0 ∨ cf y x < 0 := fun y hy => h.1 y ((pz cf r).mem_iff.1 hy)
  simp only [mY]
  generalize mY cf r = m at ih hx
  clear h
  induction m with
  | nil => simp [yq]
  | cons y m ih2 =>
   rw [List.pairwise_cons] at ih
   simp only [yq]
   split
   ·rename_i hyx
    rw [List.pairwise_cons]
    refine ⟨fun z hz => ?_, ih2 ih.2 fun z hz => hx z (by simp [hz])⟩
    rcases List.mem_cons.1 ((uG cf x m).mem_iff.1 hz) with rfl | hz
    ·exact hyx
    ·exact ih.1 z hz
   ·rename_i hyx
    have hxy := (hx y (by simp)).resolve_right hyx
    rw [List.pairwise_cons]
    refine ⟨fun z hz => ?_, List.pairwise_cons.2 ih⟩
    rcases List.mem_cons.1 hz with rfl | hz
    ·exact hxy
    ·exact ht _ _ _ hxy (ih.1 z hz)
theorem zw {α : Type} {cf : α → α → Int} : ∀ {l : List α}, (l.Pairwise fun a b => cf a b < 0) → wL cf l = true
 | [], _ => rfl
 | [x], _ => rfl
 | a :: b :: r, h => by
  rw [List.pairwise_cons] at h
  simp only [wL, Bool.and_eq_true, decide_eq_true_eq]
  exact ⟨h.1 b (by simp), zw h.2⟩
theorem ach {α : Type} (f : α → Int) {a b : List α} (ha : a.Pairwise fun x y => f x < f y) (hb : b.Pairwise fun x y => f x < f y) (h : ∀ x, x ∈ a ↔ x ∈ b) : a = b := by
 induction a generalizing b with
 | nil =>
  cases b with
  | nil => rfl
  | cons y b => exact absurd ((h y).2 (by simp)) (by simp)
 | cons x a ih =>
  cases b with
  | nil => exact absurd ((h x).1 (by simp)) (by simp)
  | cons y b =>
   rw [List.pairwise_cons] at ha hb
   have hxy : x = y := by
    have h1 := (h x).1 (by simp)
    have h2 := (h y).2 (by simp)
    rw [List.mem_cons] at h1 h2
    rcases h1 with h1 | h1
    ·exact h1
    ·rcases h2 with h2 | h2
     ·exact h2.symm
     ·have := hb.1 _ h1; have := ha.1 _ h2; omega
   subst hxy
   congr 1
   refine ih ha.2 hb.2 fun z => ?_
   have := h z
   simp only [List.mem_cons] at this
   constructor
   ·intro hz
    rcases this.1 (.inr hz) with q | q
    ·subst q; have := ha.1 _ hz; omega
    ·exact q
   ·intro hz
    rcases this.2 (.inr hz) with q | q
    ·subst q; have := hb.1 _ hz; omega
    ·exact q
theorem KN.ext {α : Type} : ∀ {l m : List (Int × α)}, KN l → l.map (·.1) = m.map (·.1) → (∀ x, aD l x = aD m x) → l = m
 | [], m, _, hk, _ => by
  cases m with
  | nil => rfl
  | cons q m => simp at hk
 | (n, v) :: l, [], _, hk, _ => by simp at hk
 | (n, v) :: l, (n', v') :: m, hn, hk, h => by
  simp only [List.map_cons, List.cons.injEq] at hk
  obtain ⟨rfl, hk⟩ := hk
  simp only [KN, List.map_cons, List.nodup_cons] at hn
  have h1 := h n
  rw [dM, dM, if_pos rfl, if_pos rfl] at h1
  cases h1
  congr 1
  refine KN.ext hn.2 hk fun x => ?_
  have h2 := h x
  rw [dM, dM] at h2
  by_cases hx : n = x
  ·subst hx
   have e1 : aD l n = none := by
    cases hg : aD l n with
    | none => rfl
    | some a => exact absurd (jr.1 (by rw [hg]; rfl)) hn.1
   have e2 : aD m n = none := by
    cases hg : aD m n with
    | none => rfl
    | some a => exact absurd (by rw [hk]; exact jr.1 (by rw [hg]; rfl)) hn.1
   rw [e1, e2]
  ·rwa [if_neg hx, if_neg hx] at h2
/-! ## the rows -/
def cr (x : Int) (l : bf) : Option az := if l.A = x then some ⟨l.B, l.jL⟩ else if l.B = x then some ⟨l.A, l.jM⟩ else none
def inS (x : Int) (l : bf) : Option az := if l.B = x then some ⟨l.A, l.jL⟩ else if l.A = x then some ⟨l.B, l.jM⟩ else none
theorem aau {t : aa} (hv : Vt t) (x y k : Int) : (∃ s ∈ t.Links.filterMap (cr x), s.to_ = y ∧ s.eY = k) ↔ lkC t x y = some k := by
 rw [mz]
 constructor
 ·rintro ⟨s, hs, rfl, rfl⟩
  obtain ⟨l, hl, he⟩ := List.mem_filterMap.1 hs
  have hlt := hv.lt l hl
  unfold cr at he
  split at he
  ·rename_i hA; cases he
   have h1 : dX l x l.B = true := by simp [dX, hA]
   refine ⟨jH.2 ⟨l, hl, .inl ⟨hA, rfl⟩⟩, ?_⟩
   rw [j8 hv hl h1]; simp [iM, hA]
  ·split at he
   ·rename_i hA hB; cases he
    have h1 : dX l x l.A = true := by simp [dX, hB]
    refine ⟨jH.2 ⟨l, hl, .inr ⟨hB, rfl⟩⟩, ?_⟩
    rw [j8 hv hl h1]; simp [iM, hA]
   ·cases he
 ·rintro ⟨h1, rfl⟩
  obtain ⟨l, hl, he⟩ := jH.1 h1
  have hlt := hv.lt l hl
  rcases he with ⟨rfl, rfl⟩ | ⟨rfl, rfl⟩
  ·refine ⟨⟨l.B, l.jL⟩, List.mem_filterMap.2 ⟨l, hl, by simp [cr]⟩, rfl, ?_⟩
   rw [j8 hv hl (by simp [dX])]; simp [iM]
  ·refine ⟨⟨l.A, l.jM⟩, List.mem_filterMap.2 ⟨l, hl, by have : l.A ≠ l.B := by omega
                                                        simp [cr, this]⟩, rfl, ?_⟩
   have : l.A ≠ l.B := by omega
   rw [j8 hv hl (by simp [dX])]; simp [iM, this]
theorem akJ {t : aa} (hv : Vt t) (x y k : Int) : (∃ s ∈ t.Links.filterMap (inS x), s.to_ = y ∧ s.eY = k) ↔ tM (lkC t) x y = some k := by
 show _ ↔ lkC t y x = some k
 rw [mz]
 constructor
 ·rintro ⟨s, hs, rfl, rfl⟩
  obtain ⟨l, hl, he⟩ := List.mem_filterMap.1 hs
  have hlt := hv.lt l hl
  unfold inS at he
  split at he
  ·rename_i hB; cases he
   have h1 : dX l l.A x = true := by simp [dX, hB]
   refine ⟨jH.2 ⟨l, hl, .inl ⟨rfl, hB⟩⟩, ?_⟩
   rw [j8 hv hl h1]; simp [iM, hB]
  ·split at he
   ·rename_i hB hA; cases he
    have h1 : dX l l.B x = true := by simp [dX, hA]
    refine ⟨jH.2 ⟨l, hl, .inr ⟨rfl, hA⟩⟩, ?_⟩
    have : ¬ l.A = l.B := by omega
    rw [j8 hv hl h1]; simp [iM, this]
   ·cases he
 ·rintro ⟨h1, rfl⟩
  obtain ⟨l, hl, he⟩ := jH.1 h1
  have hlt := hv.lt l hl
  rcases he with ⟨rfl, rfl⟩ | ⟨rfl, rfl⟩
  ·refine ⟨⟨l.A, l.jL⟩, List.mem_filterMap.2 ⟨l, hl, by simp [inS]⟩, rfl, ?_⟩
   rw [j8 hv hl (by simp [dX])]; simp [iM]
  ·refine ⟨⟨l.B, l.jM⟩, List.mem_filterMap.2 ⟨l, hl, by have : l.B ≠ l.A := by omega
                                                        simp [inS, this]⟩, rfl, ?_⟩
   have : l.A ≠ l.B := by omega
   rw [j8 hv hl (by simp [dX])]; simp [iM, this]
/-- the steps of a bW, as the akK orders abr -/
def sG (t : aa) (x : Int) : List az := (lI t x).map fun y => ⟨y, (jq t x y).1⟩
theorem tN {t : aa} (hv : Vt t) {x : Int} {s : az} : s ∈ sG t x ↔ lkC t x s.to_ = some s.eY := by
 rw [mz]
 simp only [sG, List.mem_map, r9 hv]
 constructor
 ·rintro ⟨y, h, rfl⟩; exact ⟨h, rfl⟩
 ·rintro ⟨h1, h2⟩; exact ⟨s.to_, h1, by rw [h2]⟩
theorem afJ {t : aa} (hv : Vt t) (x : Int) : (sG t x).Pairwise fun a b => a.to_ < b.to_ := List.pairwise_map.2 (xo hv x)
abbrev sH : az → az → Int := jk [fun x : az => x.to_]
theorem yK (a b : az) : sH a b < 0 ↔ a.to_ < b.to_ := by rw [sH, rR]; simp [jk]
theorem akL {t : aa} (hv : Vt t) (x : Int) : (t.Links.filterMap (cr x)).Pairwise fun a b => sH a b < 0 ∨ sH b a < 0 := by
 have hnd := sF hv x
 have he : t.Links.filterMap (fF x) = (t.Links.filterMap (cr x)).map (·.to_) := by
  rw [List.map_filterMap]
  congr 1
  funext l
  unfold fF cr
  by_cases h1 : l.A = x
  ·rw [if_pos h1.symm, if_pos h1]; rfl
  ·rw [if_neg (fun e => h1 e.symm), if_neg h1]
   by_cases h2 : l.B = x
   ·rw [if_pos h2.symm, if_pos h2]; rfl
   ·rw [if_neg (fun e => h2 e.symm), if_neg h2]; rfl
 rw [he] at hnd
 refine (List.pairwise_map.1 hnd).imp fun {a b} hab => ?_
 rw [yK, yK]
 omega
theorem aav {t : aa} (hv : Vt t) (x : Int) : oz sH (t.Links.filterMap (cr x)) = some (sG t x) := by
 have h1 := wk (qi _) (akL hv x)
 have e : mY sH (t.Links.filterMap (cr x)) = sG t x := by
  refine ach (·.to_) (h1.imp fun {a b} h => (yK a b).1 h) (afJ hv x) fun s => ?_
  rw [(pz _ _).mem_iff, tN hv]
  constructor
  ·intro hs; exact (aau hv x s.to_ s.eY).1 ⟨s, hs, rfl, rfl⟩
  ·intro hs
   obtain ⟨s', h2, h3, h4⟩ := (aau hv x s.to_ s.eY).2 hs
   obtain ⟨a, b⟩ := s; obtain ⟨a', b'⟩ := s'
   simp only at h3 h4; subst h3 h4; exact h2
 have hl : (t.Links.filterMap (cr x)).length ≤ 60 := Nat.le_trans (List.length_filterMap_le _ _) hv.nl
 have : (decide ((t.Links.filterMap (cr x)).length < 4611686018427387904)) = true := by simp; omega
 unfold oz
 rw [zw h1, this, e]; rfl
/-- rows set in order, one by one: qx the order -/
theorem zx {srt : List az → List az} : ∀ (l s : List (Int × List az)), KN l → (∀ p ∈ l, ∃ row, aD s p.1 = some row ∧ oz sH row = some (srt row)) →
  ∃ s', gI (fun (n_1 : Int) (_ : List az) (m_5 : List (Int × List az)) => chk (aD m_5 n_1).isSome (bnd (oz sH ((aD m_5 n_1).getD [])) fun (l_5 : List az) => some (bB m_5 n_1 l_5))) l s = some s' ∧
   s'.map (·.1) = s.map (·.1) ∧ ∀ x, aD s' x = if x ∈ l.map (·.1) then (aD s x).map srt else aD s x
 | [], s, _, _ => ⟨s, rfl, rfl, fun x => by simp⟩
 | (n, v) :: l, s, hk, h => by
  simp only [KN, List.map_cons, List.nodup_cons] at hk
  obtain ⟨row, h1, h2⟩ := h (n, v) (by simp)
  obtain ⟨s', q1, q2, q3⟩ := zx (srt := srt) l (bB s n (srt row)) hk.2 fun p hp => by
   obtain ⟨r', h3, h4⟩ := h p (by simp [hp])
   have : p.1 ≠ n := fun e => hk.1 (by rw [← e]; exact List.mem_map.2 ⟨p, hp, rfl⟩)
   exact ⟨r', by rw [eC, if_neg this]; exact h3, h4⟩
  refine ⟨s', ?_, q2.trans (uR _ (by rw [h1]; rfl)), fun x => ?_⟩
  ·simp only [gI, h1, Option.isSome_some, Option.getD_some, h2]
   exact q1
  ·rw [q3, eC]
   simp only [List.map_cons, List.mem_cons]
   by_cases hx : x = n
   ·subst hx
    rw [if_neg hk.1, if_pos rfl, if_pos (.inl rfl), h1]; rfl
   ·rw [if_neg hx]
    by_cases hm : x ∈ l.map (·.1)
    ·rw [if_pos hm, if_pos (.inr hm)]
    ·rw [if_neg hm, if_neg (fun e => e.elim hx hm)]
structure RdT (t : aa) (g : eD) : Prop where
 fw : Gph g.jZ (ids t) (lkC t)
 bw : Gph g.in_ (ids t) (tM (lkC t))
 row : ∀ x ∈ ids t, aD g.jZ x = some (sG t x)
theorem adl {t : aa} (hv : Vt t) {links : List (Int × List az)} {c : Cst} {f : Int → List az} (hk : KN links) (hg : ∀ x, aD links x = if x ∈ ids t then some (f x) else none)
  (hr : ∀ x y k, (∃ s ∈ f x, s.to_ = y ∧ s.eY = k) ↔ c x y = some k) (hc : ∀ x y k, c x y = some k → (1 ≤ k ∧ k ≤ 1000) ∧ x ∈ ids t ∧ y ∈ ids t) : Gph links (ids t) c where
 keys := fun x => by rw [hg]; by_cases h : x ∈ ids t <;> simp [h]
 len := by
  have hn : (ids t).Nodup := (ve hv).imp fun h => Int.ne_of_lt h
  have h1 := hk.len (V := ids t) fun n v h => by
   rw [hg] at h
   split at h
   ·assumption
   ·cases h
  have h2 := si hn (b := links.map (·.1)) fun x hx => jr.1 (by rw [hg, if_pos hx]; rfl)
  rw [List.length_map] at h2
  omega
 nd := (ve hv).imp fun h => Int.ne_of_lt h
 small := vQ hv
 nz := fun x hx => by
  obtain ⟨r, h1, rfl⟩ := List.mem_map.1 hx
  have := (hv.idr r h1).1; omega
 row := fun x y k => by
  rw [hg]
  by_cases h : x ∈ ids t
  ·rw [if_pos h]; exact hr x y k
  ·rw [if_neg h]
   constructor
   ·rintro ⟨s, hs, _⟩; simp at hs
   ·intro he; exact absurd (hc x y k he).2.1 h
 cs := fun x y k h => (hc x y k h).1
 inV := fun x y k h => (hc x y k h).2.2
theorem abi {t : aa} (hv : Vt t) : Ok (jT t) (RdT t) := by
 unfold jT
 have hab : ∀ l ∈ t.Links, l.A ∈ ids t ∧ l.B ∈ ids t ∧ l.A ≠ l.B := fun l hl => by
  have h1 := hv.ends l hl
  have h2 := hv.lt l hl
  exact ⟨nR.2 h1.1, nR.2 h1.2, by omega⟩
 refine Ok.vf (fun p s => (KN s.1 ∧ ∀ x, aD s.1 x = if x ∈ p.map (·.ID) then some [] else none) ∧ (KN s.2 ∧ ∀ x, aD s.2 x = if x ∈ p.map (·.ID) then some [] else none)) ?_ _ ?_ ?_
 ·rintro p e r ⟨m1, m2⟩ Z _ ⟨⟨h1, h2⟩, h3, h4⟩ hZ
  refine hZ _ ⟨⟨nS h1, fun x => ?_⟩, nS h3, fun x => ?_⟩
  ·rw [eC, h2]
   by_cases hx : x = e.ID <;> simp [hx]
  ·rw [eC, h4]
   by_cases hx : x = e.ID <;> simp [hx]
 ·exact ⟨⟨List.nodup_nil, fun x => by simp [aD]⟩, List.nodup_nil, fun x => by simp [aD]⟩
 rintro ⟨m1, m2⟩ ⟨⟨h1, h2⟩, h3, h4⟩
 simp only at h1 h2 h3 h4 ⊢
 refine Ok.vf (fun p s => (KN s.1 ∧ ∀ x, aD s.1 x = if x ∈ ids t then some (p.filterMap (cr x)) else none) ∧ (KN s.2 ∧ ∀ x, aD s.2 x = if x ∈ ids t then some (p.filterMap (inS x)) else none)) ?_ _ ⟨⟨h1, fun x => by rw [h2]; rfl⟩, h3, fun x => by rw [h4]; rfl⟩ ?_
 ·rintro p e r ⟨m3, m4⟩ Z hL ⟨⟨g1, g2⟩, g3, g4⟩ hZ
  simp only at g1 g2 g3 g4 ⊢
  obtain ⟨a1, a2, a3⟩ := hab e (by rw [hL]; simp)
  have hp : p.length ≤ 60 := by have := hv.nl; rw [hL] at this; simp at this; omega
  have hf : ∀ (f : bf → Option az), (p.filterMap f).length ≤ 60 := fun f => Nat.le_trans (List.length_filterMap_le _ _) hp
  have app : ∀ (f : bf → Option az) (s : az), eR (p.filterMap f) [s] = some (p.filterMap f ++ [s]) := fun f s => yG (by have := hf f; simp; omega)
  have e1 : (aD m3 e.A).getD [] = p.filterMap (cr e.A) := by rw [g2, if_pos a1]; rfl
  have e2 : ∀ l, (aD (bB m3 e.A l) e.B).getD [] = p.filterMap (cr e.B) := fun l => by rw [eC, if_neg (Ne.symm a3), g2, if_pos a2]; rfl
  have e3 : (aD m4 e.B).getD [] = p.filterMap (inS e.B) := by rw [g4, if_pos a2]; rfl
  have e4 : ∀ l, (aD (bB m4 e.B l) e.A).getD [] = p.filterMap (inS e.A) := fun l => by rw [eC, if_neg a3, g4, if_pos a1]; rfl
  rw [e1, app, bK, e2, app, bK, e3, app, bK, e4, app, bK]
  refine hZ _ ⟨⟨nS (nS g1), fun x => ?_⟩, nS (nS g3), fun x => ?_⟩
  ·rw [eC, eC, g2, List.filterMap_append]
   by_cases hB : x = e.B
   ·subst hB
    rw [if_pos rfl, if_pos a2]
    simp [cr, a3]
   ·rw [if_neg hB]
    by_cases hA : x = e.A
    ·subst hA
     rw [if_pos rfl, if_pos a1]
     simp [cr]
    ·rw [if_neg hA]
     have : cr x e = none := by simp [cr, Ne.symm hA, Ne.symm hB]
     simp [this]
  ·rw [eC, eC, g4, List.filterMap_append]
   by_cases hA : x = e.A
   ·subst hA
    rw [if_pos rfl, if_pos a1]
    simp [inS, Ne.symm a3]
   ·rw [if_neg hA]
    by_cases hB : x = e.B
    ·subst hB
     rw [if_pos rfl, if_pos a2]
     simp [inS]
    ·rw [if_neg hB]
     have : inS x e = none := by simp [inS, Ne.symm hA, Ne.symm hB]
     simp [this]
 rintro ⟨m3, m4⟩ ⟨⟨g1, g2⟩, g3, g4⟩
 simp only at g1 g2 g3 g4 ⊢
 -- the rows in order
 have srt : ∀ l' : List (Int × List az), l'.Perm m3 → ∃ s', gI (fun (n_1 : Int) (_ : List az) (m_5 : List (Int × List az)) => chk (aD m_5 n_1).isSome (bnd (oz sH ((aD m_5 n_1).getD [])) fun (l_5 : List az) => some (bB m_5 n_1 l_5))) l' m3 = some s' ∧
   s'.map (·.1) = m3.map (·.1) ∧ ∀ x, aD s' x = if x ∈ ids t then some (sG t x) else none := fun l' hl => by
  obtain ⟨s', q1, q2, q3⟩ := zx (srt := fun row => (oz sH row).getD []) l' m3 ((hl.map _).nodup_iff.2 g1) fun p hp => by
   have hg := xq g1 (hl.mem_iff.1 hp)
   have h5 := g2 p.1
   rw [hg] at h5
   split at h5
   ·have h5 := Option.some.inj h5
    exact ⟨_, hg, by rw [h5, aav hv]; rfl⟩
   ·cases h5
  refine ⟨s', q1, q2, fun x => ?_⟩
  rw [q3, g2]
  have hm : x ∈ l'.map (·.1) ↔ x ∈ ids t := by
   rw [(hl.map _).mem_iff, ← jr, g2]
   by_cases hx : x ∈ ids t <;> simp [hx]
  by_cases hx : x ∈ ids t
  ·rw [if_pos (hm.2 hx), if_pos hx, if_pos hx]
   simp [aav hv]
  ·rw [if_neg (fun h => hx (hm.1 h)), if_neg hx, if_neg hx]
 obtain ⟨R, r1, r2, r3⟩ := srt m3 (List.Perm.refl _)
 have hkR : KN R := by rw [KN, r2]; exact g1
 refine Ok.bnd (P := fun x => x = R) ⟨R, zh fun l' hl => ?_, rfl⟩ fun x hx => ?_
 ·obtain ⟨s', q1, q2, q3⟩ := srt l' hl
  rw [KN.ext hkR (r2.trans q2.symm) fun x => by rw [r3, q3]]
  exact q1
 subst hx
 refine .s ⟨adl hv hkR r3 (fun x y k => ?_) fun x y k h => ⟨x6 hv h, qu hv h⟩, adl hv g3 g4 (akJ hv) fun x y k h => ⟨x6 hv h, (qu hv h).2, (qu hv h).1⟩, fun x hx => by rw [r3, if_pos hx]⟩
 constructor
 ·rintro ⟨s, hs, rfl, rfl⟩; exact (tN hv).1 hs
 ·intro h; exact ⟨⟨y, k⟩, (tN hv).2 h, rfl, rfl⟩
end Go.Proofs.Ytdjeacigeegklaa

/- abP the document's rounds uo to: the least eM. No condition but bL aY stand in each. -/
namespace Go.Proofs.Ytdjeacigeegklaa
set_option linter.all false
open Go
theorem wm {α : Type} {p q : α → Bool} {l : List α} (h : ∀ x ∈ l, q x = true → p x = true) : (l.filter q).length ≤ (l.filter p).length ∧ ∀ x ∈ l, p x = true → q x = false → (l.filter q).length < (l.filter p).length := by
 induction l with
 | nil => simp
 | cons y l ih =>
  obtain ⟨i1, i2⟩ := ih fun x hx => h x (by simp [hx])
  have hy := h y (by simp)
  cases hq : q y with
  | true =>
   rw [List.filter_cons_of_pos hq, List.filter_cons_of_pos (hy hq)]
   refine ⟨by simpa using i1, fun x hx hp hn => ?_⟩
   rcases List.mem_cons.1 hx with rfl | hx
   ·rw [hq] at hn; cases hn
   ·have := i2 x hx hp hn; simpa using this
  | false =>
   rw [List.filter_cons_of_neg (by simp [hq])]
   cases hp : p y with
   | true =>
    rw [List.filter_cons_of_pos hp]
    simp only [List.length_cons]
    exact ⟨by omega, fun x hx _ _ => by omega⟩
   | false =>
    rw [List.filter_cons_of_neg (by simp [hp])]
    refine ⟨i1, fun x hx hp' hn => ?_⟩
    rcases List.mem_cons.1 hx with rfl | hx
    ·rw [hp] at hp'; cases hp'
    ·exact i2 x hx hp' hn
theorem adm {t : aa} (hv : Vt t) {a b k : Int} (ha : a ∈ ids t) (h : dst (lkC t) a b = some k) : 0 ≤ k ∧ k ≤ 24000 := by
 obtain ⟨g, h1, h2⟩ := abi hv
 obtain ⟨l, h3, h4⟩ := aoo h2.fw ha
 exact h4.2.2 b k h
end Go.Proofs.Ytdjeacigeegklaa

/- Costs, distances and next vR, both ways. No condition but bL aY stand in each. -/
namespace Go.Proofs.Ytdjeacigeegklaa
set_option linter.all false
open Go
open Classical in
/-- the cost of the shortest paths -/
noncomputable def dT (t : aa) (a b : Int) : Option Int := if jb t = 0 ∧ a ∈ ids t ∧ b ∈ ids t then dst (lkC t) a b else none
theorem agM {t : aa} (hv : Vt t) {a b : Int} (ha : a ∈ ids t) (hb : b ∈ ids t) : dT t a b = dst (lkC t) a b := by
 unfold dT; rw [if_pos ⟨nk.2 hv, ha, hb⟩]
theorem nq {t : aa} {a b k : Int} (h : dT t a b = some k) : Vt t ∧ a ∈ ids t ∧ b ∈ ids t ∧ dst (lkC t) a b = some k := by
 unfold dT at h
 split at h
 ·rename_i hc; exact ⟨nk.1 hc.1, hc.2.1, hc.2.2, h⟩
 ·cases h
theorem aaw {t : aa} {a b : Int} (h : ¬ (jb t = 0 ∧ a ∈ ids t ∧ b ∈ ids t)) : dT t a b = none := by unfold dT; rw [if_neg h]
theorem aax {t : aa} {a b k : Int} (h : dT t a b = some k) : 0 ≤ k ∧ k ≤ 24000 := by
 obtain ⟨hv, ha, hb, hd⟩ := nq h
 exact adm hv ha hd
theorem arq {t : aa} (hv : Vt t) {g : eD} (hg : RdT t g) (b : Int) : ∃ l, eG g.in_ b = some l ∧ ∀ x, aD l x = dT t x b := by
 by_cases hb : b ∈ ids t
 ·obtain ⟨l, h1, _, h2, _⟩ := aoo hg.bw hb
  refine ⟨l, h1, fun x => ?_⟩
  rw [h2, yJ]
  by_cases hx : x ∈ ids t
  ·rw [agM hv hx hb]
  ·rw [aaw (fun h => hx h.2.1)]
   exact (afE (akG hv)).2 fun m hm => hx (by
    cases hm.rev with
    | nil => exact absurd hb hx
    | snoc _ hk => exact (qu hv hk).1)
 ·refine ⟨[], akI ?_, fun x => by rw [aaw (fun h => hb h.2.2)]; rfl⟩
  have := hg.bw.keys b
  cases h : (aD g.in_ b).isSome with
  | false => rfl
  | true => exact absurd (this.1 h) hb
/-! ## eM -/
theorem afK (t : aa) : ic t = some (decide (jb t = 0)) := by unfold ic; rw [va]; rfl
/-! ## the first vR of shortest paths -/
noncomputable def onB (t : aa) (b x y : Int) : Bool := match dT t x b, dT t y b with
 | some all, some c => decide ((jq t x y).1 + c = all)
 | _, _ => false
noncomputable def fN (t : aa) (b x : Int) : List Int := (lI t x).filter (onB t b x)
theorem tO {t : aa} {b x : Int} (h : dT t x b = none) : fN t b x = [] := by
 unfold fN
 rw [List.filter_eq_nil_iff]
 intro y _
 simp [onB, h]
theorem afL {t : aa} (hv : Vt t) (x : Int) : (lI t x).length ≤ 24 := Nat.le_trans (List.length_filter_le _ _) (vQ hv)
theorem aay {t : aa} (hv : Vt t) {g : eD} (hg : RdT t g) {b : Int} {l : List (Int × Int)} (hl : ∀ x, aD l x = dT t x b) (x : Int) : gy g l x = some (fN t b x) := by
 unfold gy
 rw [hl]
 cases hd : dT t x b with
 | none => rw [tO hd]; rfl
 | some all =>
  obtain ⟨_, hx, hb, _⟩ := nq hd
  have hall := aax hd
  simp only [Option.isSome_some, Bool.not_true, cond_false, Option.getD_some]
  rw [hg.row x hx]
  have hn := afL hv x
  refine (rZ (fun s : az => onB t b x s.to_) (·.to_) (sG t x) 0 [] (fun j s Z o hs ho => ?_) (by simp [sG]; omega)).trans ?_
  ·have hc := (tN hv).1 hs
   have hcl := x6 hv hc
   have hp := (mz.1 hc).2
   simp only [jn, hl]
   cases hy : dT t s.to_ b with
   | none => simp [onB, hd, hy]
   | some c =>
    have := aax hy
    rw [show onB t b x s.to_ = decide (s.eY + c = all) by simp [onB, hd, hy, hp]]
    simp only [Option.isSome_some, Bool.true_and, Option.getD_some]
    have hw : w64 (s.eY + c) = s.eY + c := aat (by omega) (by omega)
    simp only [hw]
    rw [p8 ho]; rfl
  ·rw [List.nil_append, sG, List.filter_map, List.map_map]
   have : ((fun (x : az) => x.to_) ∘ fun y => (⟨y, (jq t x y).1⟩ : az)) = id := rfl
   rw [this, List.map_id]; rfl
/-- the beginning of what Next, vK say: nothing at a bad o8, or at one and the same bW -/
theorem adn {α : Type} (t : aa) (a b : Int) (k : Bool → Option α) : (jn k fun J => bnd (ic t) fun (v1 : Bool) => (bif !v1 then J true else J (decide (a = b)))) = k (!decide (jb t = 0) || decide (a = b)) := by
 simp only [jn]
 rw [afK, bK]
 by_cases h : jb t = 0 <;> simp [h]
theorem aaz {t : aa} {a b : Int} (h : ¬ (jb t = 0 ∧ a ∈ ids t ∧ b ∈ ids t)) : fN t b a = [] := tO (aaw h)
end Go.Proofs.Ytdjeacigeegklaa

/- aop and numbers of paths, both ways. No condition but bL aY stand in each. -/
namespace Go.Proofs.Ytdjeacigeegklaa
set_option linter.all false
open Go
theorem xw {t : aa} (hv : Vt t) {b x y : Int} : y ∈ fN t b x ↔ ∃ w m k, lkC t x y = some w ∧ dT t y b = some m ∧ dT t x b = some k ∧ w + m = k := by
 unfold fN
 rw [List.mem_filter, r9 hv]
 constructor
 ·rintro ⟨h1, h2⟩
  unfold onB at h2
  split at h2
  ·rename_i all c e1 e2
   exact ⟨_, c, all, mz.2 ⟨h1, rfl⟩, e2, e1, of_decide_eq_true h2⟩
  ·cases h2
 ·rintro ⟨w, m, k, h1, h2, h3, h4⟩
  obtain ⟨h5, h6⟩ := mz.1 h1
  exact ⟨h5, by simp [onB, h2, h3, h6, h4]⟩
theorem pN {t : aa} (hv : Vt t) {b x y : Int} (h : y ∈ fN t b x) : ∃ m k, dT t y b = some m ∧ dT t x b = some k ∧ m < k := by
 obtain ⟨w, m, k, h1, h2, h3, h4⟩ := (xw hv).1 h
 have := (x6 hv h1).1
 exact ⟨m, k, h2, h3, by omega⟩
theorem afM {t : aa} {b x y : Int} (hv : Vt t) (h : y ∈ fN t b x) : y ∈ ids t := by
 obtain ⟨m, k, h1, _⟩ := pN hv h
 exact (nq h1).2.1
theorem yL {t : aa} {b x k : Int} (h : dT t x b = some k) (hne : x ≠ b) : ∃ y, y ∈ fN t b x := by
 obtain ⟨hv, hx, hb, hd⟩ := nq h
 obtain ⟨y, w, m, h1, h2, h3⟩ := adk hd hne
 exact ⟨y, (xw hv).2 ⟨w, m, k, h1, by rw [agM hv (qu hv h1).2 hb]; exact h2, h, by omega⟩⟩
/-! ## how many are nearer -/
noncomputable def nT (t : aa) (b x y : Int) : Bool := match dT t y b, dT t x b with
 | some m, some k => decide (m < k)
 | _, _ => false
noncomputable def rk (t : aa) (b x : Int) : Nat := ((ids t).filter (nT t b x)).length
theorem qv {t : aa} (hv : Vt t) {b x y : Int} (h : y ∈ fN t b x) : rk t b y < rk t b x := by
 obtain ⟨m, k, h1, h2, h3⟩ := pN hv h
 refine (wm fun z hz hq => ?_).2 y (afM hv h) (by simp [nT, h1, h2, h3]) (by simp [nT, h1])
 unfold nT at hq ⊢
 rw [h1] at hq
 rw [h2]
 cases hd : dT t z b with
 | none => rw [hd] at hq; cases hq
 | some j => rw [hd] at hq; simp only [decide_eq_true_eq] at hq ⊢; omega
theorem aci {t : aa} (hv : Vt t) {b x : Int} (hb : b ∈ ids t) : rk t b x < (ids t).length := by
 cases hd : dT t x b with
 | none =>
  have : (ids t).filter (nT t b x) = [] := by
   rw [List.filter_eq_nil_iff]; intro y _; cases h : dT t y b <;> simp [nT, hd, h]
  unfold rk; rw [this]; exact List.length_pos_of_mem hb
 | some k =>
  have hx := (nq hd).2.1
  have := (wm (p := fun _ => true) (q := nT t b x) (l := ids t) fun _ _ _ => rfl).2 x hx rfl (by simp [nT, hd])
  rw [List.filter_eq_self.2 fun _ _ => rfl] at this
  exact this
/-! ## routes -/
def rtF (f : Int → List Int) (b : Int) : Nat → Int → List Int → List Int
 | 0, _, _ => []
 | n + 1, x, out => if x = b then out else match f x with
  | [] => []
  | y :: _ => rtF f b n y (out ++ [y])
noncomputable def eX (t : aa) (a b : Int) : List Int := rtF (fN t b) b 30 a []
theorem yM (b : Int) {f : Int → List Int} {n : Nat} {a : Int} (h : f a = []) (hab : a ≠ b) (out : List Int) : rtF f b n a out = [] := by
 cases n with
 | zero => rfl
 | succ n => simp [rtF, hab, h]
theorem vg {t : aa} {a b : Int} (h : ¬ (jb t = 0 ∧ a ∈ ids t ∧ b ∈ ids t)) : eX t a b = [] := by
 by_cases hab : a = b
 ·simp [eX, rtF, hab]
 ·exact yM b (aaz h) hab []
theorem acj (t : aa) (a b : Int) : jo t a b = some (eX t a b) := by
 unfold jo
 refine (adn t a b _).trans ?_
 by_cases h : jb t = 0
 ·have hv := nk.1 h
  by_cases hab : a = b
  ·subst hab; simp [eX, rtF]
  ·obtain ⟨g, h1, h2⟩ := abi hv
   obtain ⟨l, h3, h4⟩ := arq hv h2 b
   rw [decide_eq_true h, decide_eq_false hab]
   simp only [Bool.not_true, Bool.or_self, cond_false]
   rw [h1, bK, h3, bK]
   refine Ok.eq ?_
   by_cases hb : b ∈ ids t
   ·have hlen := vQ hv
    refine Ok.whl (fun s => s.1.length ≤ 30 ∧ ∃ n, rk t b s.2 < n ∧ n + s.1.length ≤ 30 ∧ rtF (fN t b) b n s.2 s.1 = eX t a b) (fun s => rk t b s.2) (s := ([], a)) ⟨by simp, 30, by show rk t b a < 30; have := aci hv (x := a) hb; omega, by simp, rfl⟩ (by have := aci hv (x := a) hb; simp only; omega) ?_
    rintro ⟨out, x⟩ Z ⟨i0, n, i1, i2, i3⟩ hZ
    simp only at i0 i1 i2 i3 hZ ⊢
    refine Ok.cs (fun hx => ?_) fun hx => .s ?_
    ·have hxb : x ≠ b := by simpa using hx
     rw [aay hv h2 h4, bK]
     cases hn : fN t b x with
     | nil => exact .s (by rw [← i3, yM b hn hxb])
     | cons y r =>
      have hr := qv hv (b := b) (x := x) (y := y) (by rw [hn]; simp)
      obtain ⟨n, rfl⟩ : ∃ m, n = m + 1 := ⟨n - 1, by omega⟩
      simp only [List.length_cons]
      rw [decide_eq_false (by omega), cond_false]
      simp only [elO]
      rw [if_pos (by decide)]
      simp only [Int.toNat_zero, List.getElem?_cons_zero, bK, p8 (show out.length < 1000000 by omega)]
      rw [List.length_append]
      simp only [List.length_cons, List.length_nil]
      have hw : w64 (((out.length + (0 + 1) : Nat) : Int) - 1) = (out.length : Int) := by rw [aat (by omega) (by omega)]; omega
      rw [hw, if_pos (by omega)]
      simp only [Int.toNat_natCast]
      rw [List.getElem?_append_right (by omega)]
      simp only [Nat.sub_self, List.getElem?_cons_zero, bK]
      refine hZ (out ++ [y], y) ⟨by simp; omega, n, by show rk t b y < n; omega, by simp; omega, ?_⟩ hr
      rw [← i3]; simp [rtF, hxb, hn]
    ·have hxb : x = b := by simpa using hx
     rw [← i3]
     obtain ⟨n, rfl⟩ : ∃ m, n = m + 1 := ⟨n - 1, by omega⟩
     simp [rtF, hxb]
   ·have hn : fN t b a = [] := aaz fun e => hb e.2.2
    refine Ok.whl (fun s => s = ([], a)) (fun _ => 0) (s := ([], a)) rfl (by decide) ?_
    rintro _ Z rfl hZ
    simp only
    rw [decide_eq_false hab]
    simp only [Bool.not_false, cond_true]
    rw [aay hv h2 h4, bK, hn]
    refine .s ?_
    rw [vg fun e => hb e.2.2]
 ·rw [decide_eq_false h, vg fun e => h e.1]; rfl
/-! ## numbers of paths -/
end Go.Proofs.Ytdjeacigeegklaa

/- abP z6 on shortest paths, and agX there are two; the example. No condition but bL aY stand in each. -/
namespace Go.Proofs.Ytdjeacigeegklaa
set_option linter.all false
open Go
set_option maxRecDepth 100000
/-! ## no two paths -/
/-! ## the example -/
end Go.Proofs.Ytdjeacigeegklaa

/- aop step by step; eM and components. No condition but bL aY stand in each. -/
namespace Go.Proofs.Ytdjeacigeegklaa
set_option linter.all false
open Go
/-! ## a ars, step by step -/
theorem aaA {t : aa} {b : Int} : ∀ (n : Nat) (x : Int) (out : List Int), rk t b x < n → (dT t x b).isSome = true → rtF (fN t b) b n x out = out ++ rtF (fN t b) b n x []
 | 0, _, _, h, _ => by omega
 | n + 1, x, out, h, hd => by
  obtain ⟨k, hk⟩ := Option.isSome_iff_exists.1 hd
  obtain ⟨hv, _⟩ := nq hk
  simp only [rtF]
  by_cases hx : x = b
  ·rw [if_pos hx, if_pos hx, List.append_nil]
  ·rw [if_neg hx, if_neg hx]
   cases hn : fN t b x with
   | nil => obtain ⟨y, hy⟩ := yL hk hx; rw [hn] at hy; cases hy
   | cons y r =>
    have hy : y ∈ fN t b x := by rw [hn]; simp
    have hr := qv hv hy
    obtain ⟨m, _, hm, _⟩ := pN hv hy
    have hyd : (dT t y b).isSome = true := by rw [hm]; rfl
    simp only
    rw [aaA n y (out ++ [y]) (by omega) hyd, aaA n y ([] ++ [y]) (by omega) hyd]
    simp
theorem zy {t : aa} {b : Int} : ∀ (n m : Nat) (x : Int) (out : List Int), rk t b x < n → rk t b x < m → (dT t x b).isSome = true → rtF (fN t b) b n x out = rtF (fN t b) b m x out
 | 0, _, _, _, h, _, _ => by omega
 | _ + 1, 0, _, _, _, h, _ => by omega
 | n + 1, m + 1, x, out, h1, h2, hd => by
  obtain ⟨k, hk⟩ := Option.isSome_iff_exists.1 hd
  obtain ⟨hv, _⟩ := nq hk
  simp only [rtF]
  by_cases hx : x = b
  ·rw [if_pos hx, if_pos hx]
  ·rw [if_neg hx, if_neg hx]
   cases hn : fN t b x with
   | nil => rfl
   | cons y r =>
    have hy : y ∈ fN t b x := by rw [hn]; simp
    have hr := qv hv hy
    obtain ⟨k, _, hm, _⟩ := pN hv hy
    exact zy n m y _ (by omega) (by omega) (by rw [hm]; rfl)
theorem ack (t : aa) (b : Int) : eX t b b = [] := by simp [eX, rtF]
theorem x8 {t : aa} {x b k : Int} (h : dT t x b = some k) (hne : x ≠ b) : ∃ y r, fN t b x = y :: r ∧ eX t x b = y :: eX t y b := by
 obtain ⟨hv, hx, hb, _⟩ := nq h
 cases hn : fN t b x with
 | nil => obtain ⟨y, hy⟩ := yL h hne; rw [hn] at hy; cases hy
 | cons y r =>
  refine ⟨y, r, rfl, ?_⟩
  have hy : y ∈ fN t b x := by rw [hn]; simp
  have hr := qv hv hy
  obtain ⟨m, _, hm, _⟩ := pN hv hy
  have hyd : (dT t y b).isSome = true := by rw [hm]; rfl
  have h1 := aci hv (x := x) hb
  have h2 := vQ hv
  unfold eX
  rw [show (30 : Nat) = 29 + 1 from rfl, rtF, if_neg hne, hn]
  simp only
  rw [aaA 29 y ([] ++ [y]) (by omega) hyd, zy 29 (29 + 1) y [] (by omega) (by omega) hyd]
  simp
/-- along the ars -/
theorem ado {t : aa} {b : Int} (P : Int → Prop) (h0 : P b) (hs : ∀ x y k w m r, dT t x b = some k → x ≠ b → fN t b x = y :: r → eX t x b = y :: eX t y b → lkC t x y = some w → dT t y b = some m → w + m = k → P y → P x) :
  ∀ (n : Nat) (x : Int), rk t b x ≤ n → (dT t x b).isSome = true → P x := by
 intro n
 induction n with
 | zero =>
  intro x hr hd
  obtain ⟨k, hk⟩ := Option.isSome_iff_exists.1 hd
  by_cases hx : x = b
  ·rw [hx]; exact h0
  ·obtain ⟨y, hy⟩ := yL hk hx
   have := qv (nq hk).1 hy; omega
 | succ n ih =>
  intro x hr hd
  obtain ⟨k, hk⟩ := Option.isSome_iff_exists.1 hd
  by_cases hx : x = b
  ·rw [hx]; exact h0
  ·obtain ⟨y, r, h1, h2⟩ := x8 hk hx
   have hv := (nq hk).1
   have hy : y ∈ fN t b x := by rw [h1]; simp
   obtain ⟨w, m, k', q1, q2, q3, q4⟩ := (xw hv).1 hy
   rw [hk] at q3; cases q3
   exact hs x y k w m r hk hx h1 h2 q1 q2 q4 (ih y (by have := qv hv hy; omega) (by rw [q2]; rfl))
theorem adp {t : aa} {b x : Int} (h : (dT t x b).isSome = true) : (x :: eX t x b).getLast? = some b := by
 refine ado (fun x => (x :: eX t x b).getLast? = some b) (by simp [ack]) (fun x y k w m r _ _ _ h2 _ _ _ ih => ?_) _ x (Nat.le_refl _) h
 rw [h2, List.getLast?_cons_cons]; exact ih
end Go.Proofs.Ytdjeacigeegklaa
