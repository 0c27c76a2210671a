/- Plain: the bits of a tree, by both texts. No condition but bR bw stand in each. -/
import Derived.Test.YtmfehenfoepkfaaPYI
namespace Go.Proofs.Ytmfehenfoepkfaa
set_option linter.all false
open Go
theorem alC {l : List Int} (hl : l.length ≤ 1000000) (ha : l.Pairwise (· < ·)) (x : Int) : ∃ i, dM l x = some (i, decide (x ∈ l)) := by
 have e : bsT (fun y : Int => dO y x) l = decide (x ∈ l) := by
  rw [Bool.eq_iff_iff, decide_eq_true_eq, yQ (nZ (ha.imp fun {a b} h => ?_))]
  ·constructor
   ·rintro ⟨y, hy, h⟩; rw [jb] at h; subst h; exact hy
   ·intro h; exact ⟨x, h, jb.2 rfl⟩
  ·unfold dO; repeat' split
   all_goals omega
 refine ⟨(bsR (fun y : Int => dO y x) l : Int), ?_⟩
 rw [← e]
 unfold dM
 have less : ∀ y : Int, kV y x = some (decide (y < x)) := fun y => by
  unfold kV fH
  simp [aL]
 refine yP l (fun y : Int => dO y x) hl fun i j Z hj => ?_
 by_cases hij : i < j
 ·rw [dif_pos hij]
  simp only [yO (i := i) (j := j) (by omega), qh (show (i + j) / 2 < l.length by omega), aL, less, lX]
  rw [if_pos (by omega), dA (by omega) (by omega)]
  by_cases h : el l ((i + j) / 2 : Nat) < x
  ·rw [if_pos h, if_pos (v7.2 h)]; rfl
  ·rw [if_neg h, if_neg (fun hh => h (v7.1 hh))]
 ·rw [dif_neg hij]
  simp only [lX]
  rw [if_neg (by omega)]
  by_cases hi : i < l.length
  ·rw [if_pos (by omega), qh hi]
   simp only [aL, iz]
   by_cases h : el l i = x
   ·rw [if_pos h, decide_eq_true hi, decide_eq_true (jb.2 h)]; rfl
   ·rw [if_neg h, decide_eq_true hi, decide_eq_false (fun hh => h (jb.1 hh))]; simp
  ·rw [if_neg (by omega)]; simp [hi]
theorem afr (l : List Int) : iA l = some (orI l) := by
 unfold iA
 exact (aat l).symm ▸ by
  unfold ji; rfl
/-- what a receiver and a hop need -/
def mX (r : Int) : aG := aG.mk r 3 r
def mY (h : bq) : aG := aG.mk h.bJ 1 h.To
def dz (e : aB) (k : aG) : Int × Bool := p6 e k.gQ k.lI k.to_
def dP (t : bB) (rs : List Int) : List aG := rs.map mX ++ t.Links.map mY
def orK (e : aB) (s : Int) (k : aG) : Int := cg .or .u64 s (vz (dz e k).1.toNat)
noncomputable def wm (e : aB) (t : bB) (rs : List Int) : Int × Int :=
 if iM e = 0 then if ckT t = 0 then
  bif !gf (fun a b => decide (a < b)) rs then (0, 25) else bif rs.any (fun r => !decide (r ∈ jH t)) then (0, 8) else
  bif (dP t rs).any (fun k => !(dz e k).2) then (0, 4) else ((dP t rs).foldl (orK e) 0, 0)
 else (0, ckT t) else (0, iM e)
theorem l7 {e : aB} (h : Ve e) {k : aG} (hk : (dz e k).2 = true) : 0 ≤ (dz e k).1 ∧ (dz e k).1 < 64 := by
 unfold dz p6 at *
 cases hf : e.List.find? (fun x => decide (x.aT = k.gQ) && (decide (x.Kind = k.lI) && decide (x.To = k.to_))) with
 | none => rw [hf] at hk; cases hk
 | some a => exact h.bit (List.mem_of_find?_eq_some hf)
theorem vD {α β : Type} {L : List α} {B : Int → α → (Int → Option β) → Int → Option β} {K : Int → Option β} (fi : α → Int × Bool) (a : Option β) (g : Int → α → Int) (hB : ∀ j x Z s, x ∈ L → B j x Z s = bif !(fi x).2 then a else Z (g s x)) (s : Int) :
  bn L 0 B K s = bif L.any (fun x => !(fi x).2) then a else K (L.foldl g s) := by
 have key : ∀ (l : List α) (j : Nat) (s : Int), (∀ x ∈ l, x ∈ L) → bn l j B K s = bif l.any (fun x => !(fi x).2) then a else K (l.foldl g s) := by
  intro l
  induction l with
  | nil => intro j s _; rfl
  | cons x r ih =>
   intro j s h
   simp only [bn]
   rw [hB _ _ _ _ (h x (by simp)), ih (j + 1) _ (fun y hy => h y (by simp [hy])), List.any_cons, List.foldl_cons]
   cases (fi x).2 <;> rfl
 exact key L 0 s fun _ h => h
theorem xG {α γ β : Type} {B : Int → α → (List γ → Option β) → List γ → Option β} {K : List γ → Option β} (f : α → γ) (p : α → Bool) (a : Option β) (hB : ∀ j x Z s, s.length < 1000000 → B j x Z s = bif p x then a else Z (s ++ [f x])) : ∀ (l : List α) (j : Nat) (s : List γ), s.length + l.length ≤ 1000000 → bn l j B K s = bif l.any p then a else K (s ++ l.map f)
 | [], _, s, _ => by simp [bn]
 | x :: r, j, s, h => by
  simp only [List.length_cons] at h
  simp only [bn]
  rw [hB _ _ _ _ (by omega), xG f p a hB r (j + 1) _ (by simp; omega), List.any_cons]
  cases p x
  ·simp
  ·rfl
theorem afs {β : Type} {l : List Int} (hl : l.length ≤ 1000000) {B : Int → Int → (Unit → Option β) → Unit → Option β} {K : Unit → Option β} (a : Option β) (hB : ∀ j x Z s, B j x Z s = bnd (elO l (w64 (j - 1))) fun e => bif decide (x ≤ e) then a else Z s) : bn (List.drop 1 l) 1 B K () = bif gf (fun a b => decide (a < b)) l then K () else a :=
 lq (fun a b : Int => decide (a < b)) a (fun j x y r q s Z hL hj => by
  rw [hB, kg hL hj (by omega), aL]
  by_cases h : y < x
  ·have : ¬ x ≤ y := by omega
   simp [h, this]
  ·have : x ≤ y := by omega
   simp [h, this]) _
theorem xH (e : aB) (t : bB) (rs : List Int) (h1 : e.List.length ≤ 100000) (h2 : t.Links.length ≤ 100000) (h3 : rs.length ≤ 100000) : fk e t rs = some (wm e t rs) := by
 unfold fk wm
 simp only [mV e (by omega), qw t (by omega), aL, afr]
 by_cases hv : iM e = 0
 ·by_cases hc : ckT t = 0
  ·have e0 : orI [iM e, ckT t] = 0 := by rw [hv, hc]; rfl
   simp only [e0, decide_true, Bool.not_true, cond_false, hv, hc, if_true]
   refine (afs (by omega) (some ((0:Int), (25:Int))) (by intros; rfl)).trans ?_
   cases gf (fun a b : Int => decide (a < b)) rs
   ·rfl
   simp only [cond_true, Bool.not_true, cond_false, wH t h2, aL]
   refine (xG mX (fun r => !decide (r ∈ jH t)) (some ((0:Int), (8:Int))) (fun j x Z s hs => ?_) _ _ _ (by simp; omega)).trans ?_
   ·obtain ⟨i, hi⟩ := alC (l := jH t) (by have := wj t; omega) (adb t) x
    rw [hi, aL, uf hs, aL]; rfl
   cases rs.any (fun r => !decide (r ∈ jH t))
   ·simp only [cond_false, List.nil_append]
    refine (xG mY (fun _ => false) none (fun j x Z s hs => by rw [uf hs, aL]; rfl) _ _ _ (by simp; omega)).trans ?_
    rw [show t.Links.any (fun _ => false) = false by rw [any_false]; intros; rfl, cond_false]
    show bn (dP t rs) 0 _ _ _ = _
    refine (vD (dz e) (some ((0:Int), (4:Int))) (orK e) (fun j x Z s hx => ?_) _).trans ?_
    ·rw [zu, aL]
     show (bif !(dz e x).2 then _ else _) = _
     cases hf : (dz e x).2
     ·rfl
     ·obtain ⟨b1, b2⟩ := l7 (jV.1 hv) hf
      show chk (decide (0 ≤ (dz e x).1)) (Z (cg .or .u64 s (IntKind.wrap .u64 ((1:Int) * 2 ^ min (dz e x).1.toNat 64)))) = _
      rw [decide_eq_true b1, aax b1 b2]; rfl
    ·cases (dP t rs).any (fun k => !(dz e k).2) <;> rfl
   ·rfl
  ·have e0 : orI [iM e, ckT t] = ckT t := by simp [orI, hv, hc]
   rw [e0, if_pos hv, if_neg hc, decide_eq_false hc]; rfl
 ·have e0 : orI [iM e, ckT t] = iM e := by simp [orI, hv]
  simp [e0, hv]
theorem wo {e : aB} : ∀ (l : List aG) (acc : Int), B64 acc → (∀ k ∈ l, 0 ≤ (dz e k).1 ∧ (dz e k).1 < 64) → B64 (l.foldl (orK e) acc) ∧ ∀ i, tbi (l.foldl (orK e) acc) i = true ↔ tbi acc i = true ∨ ∃ k ∈ l, (dz e k).1 = (i : Int)
 | [], acc, h, _ => ⟨h, fun i => by simp⟩
 | a :: l, acc, h, hb => by
  have hb1 := hb a (by simp)
  obtain ⟨h1, h2⟩ := wo l (orK e acc a) aci fun x hx => hb x (by simp [hx])
  refine ⟨h1, fun i => ?_⟩
  rw [List.foldl_cons, h2]
  unfold orK
  rw [zK h (tq (by omega)), qV (dz e a).1.toNat i (by omega), Bool.or_eq_true, decide_eq_true_eq]
  constructor
  ·rintro ((h | h) | ⟨x, hx, h3⟩)
   ·exact .inl h
   ·exact .inr ⟨a, by simp, by omega⟩
   ·exact .inr ⟨x, by simp [hx], h3⟩
  ·rintro (h | ⟨x, hx, h3⟩)
   ·exact .inl (.inl h)
   ·rcases List.mem_cons.1 hx with rfl | hx
    ·exact .inl (.inr (by omega))
    ·exact .inr ⟨x, hx, h3⟩
theorem acp (e : aB) (t : bB) (rs : List Int) (h1 : e.List.length ≤ 90000) (h2 : t.Links.length ≤ 90000) (h3 : rs.length ≤ 90000) : mP e t rs = some (wm e t rs) := by
 unfold mP wm
 simp only [k9 e (by omega), pE t (by omega), aL, adf rs (by omega)]
 by_cases hv : iM e = 0
 ·by_cases hc : ckT t = 0
  ·simp only [decide_true, Bool.not_true, cond_false, hv, hc, if_true]
   cases gf (fun a b : Int => decide (a < b)) rs
   ·rfl
   simp only [Bool.not_true, cond_false, lY t h2, aL]
   refine (dS (fun r => !decide (r ∈ jH t)) (some ((0:Int), (8:Int))) (fun j x Z s => by rw [aaw, aL]) _ _ _).trans ?_
   cases rs.any (fun r => !decide (r ∈ jH t))
   ·simp only [cond_false]
    have step : ∀ (k : aG) (s : Int) (Z : Int → Option (Int × Int)), (bif !(dz e k).2 then some ((0:Int), (4:Int)) else chk (decide (0 ≤ IntKind.wrap .u64 (dz e k).1)) <| Z (cg .or .u64 s (IntKind.wrap .u64 ((1:Int) * 2 ^ min (IntKind.wrap .u64 (dz e k).1).toNat 64)))) = bif !(dz e k).2 then some ((0:Int), (4:Int)) else Z (orK e s k) := fun k s Z => by
     cases hf : (dz e k).2
     ·rfl
     ·obtain ⟨b1, b2⟩ := l7 (jV.1 hv) hf
      rw [wrap_u64 b1 (by omega), decide_eq_true b1, aax b1 b2]; rfl
    have hfT : ∀ r k q, gY e r k q = p6 e r k q := fun r k q => by unfold gY; rw [if_pos hv]
    refine (vD (fun h : bq => dz e (mY h)) (some ((0:Int), (4:Int))) (fun s h => orK e s (mY h)) (fun j x Z s hx => ?_) _).trans ?_
    ·rw [qL e _ _ _ (by omega), aL, hfT]; exact step (mY x) s Z
    have ea : (dP t rs).any (fun k => !(dz e k).2) = (rs.any (fun r => !(dz e (mX r)).2) || t.Links.any (fun h => !(dz e (mY h)).2)) := by
     unfold dP; rw [List.any_append, List.any_map, List.any_map]; rfl
    rw [ea]
    cases hl : t.Links.any (fun h => !(dz e (mY h)).2)
    ·simp only [cond_false, Bool.or_false]
     refine (vD (fun r : Int => dz e (mX r)) (some ((0:Int), (4:Int))) (fun s r => orK e s (mX r)) (fun j x Z s hx => ?_) _).trans ?_
     ·rw [qL e _ _ _ (by omega), aL, hfT]; exact step (mX x) s Z
     cases hr : rs.any (fun r => !(dz e (mX r)).2)
     ·simp only [cond_false, Option.some.injEq, Prod.mk.injEq, and_true]
      have hR : ∀ k ∈ rs.map mX, 0 ≤ (dz e k).1 ∧ (dz e k).1 < 64 := fun k hk => by
       obtain ⟨r, hr2, rfl⟩ := List.mem_map.1 hk
       exact l7 (jV.1 hv) (by have := any_false.1 hr r hr2; simpa using this)
      have hH : ∀ k ∈ t.Links.map mY, 0 ≤ (dz e k).1 ∧ (dz e k).1 < 64 := fun k hk => by
       obtain ⟨r, hr2, rfl⟩ := List.mem_map.1 hk
       exact l7 (jV.1 hv) (by have := any_false.1 hl r hr2; simpa using this)
      have e1 : rs.foldl (fun s r => orK e s (mX r)) (t.Links.foldl (fun s h => orK e s (mY h)) 0) = (t.Links.map mY ++ rs.map mX).foldl (orK e) 0 := by
       rw [List.foldl_append, List.foldl_map, List.foldl_map]
      rw [e1]
      obtain ⟨a1, a2⟩ := wo (e := e) (t.Links.map mY ++ rs.map mX) 0 qi fun k hk => (List.mem_append.1 hk).elim (hH k) (hR k)
      obtain ⟨b1, b2⟩ := wo (e := e) (dP t rs) 0 qi fun k hk => (List.mem_append.1 hk).elim (hR k) (hH k)
      refine yg a1 b1 fun i _ => ?_
      rw [Bool.eq_iff_iff, a2, b2]
      unfold dP
      simp only [List.mem_append]
      constructor
      ·rintro (h | ⟨k, h | h, hk⟩)
       ·exact .inl h
       ·exact .inr ⟨k, .inr h, hk⟩
       ·exact .inr ⟨k, .inl h, hk⟩
      ·rintro (h | ⟨k, h | h, hk⟩)
       ·exact .inl h
       ·exact .inr ⟨k, .inr h, hk⟩
       ·exact .inr ⟨k, .inl h, hk⟩
     ·rfl
    ·simp
   ·rfl
  ·simp [hv, hc]
 ·simp [hv]
end Go.Proofs.Ytmfehenfoepkfaa
