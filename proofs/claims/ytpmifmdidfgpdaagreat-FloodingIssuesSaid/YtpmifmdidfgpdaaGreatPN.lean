/- Several texts in one. No condition but those that stand in each. -/
import Derived.Test.YtpmifmdidfgpdaaGreatPM
import Derived.Test.YtpmifmdidfgpdaaGreatDA
import GoSem.Extern.BytealgCompare
import Derived.Lib.Strings
import Derived.Test.YtpmifmdidfgpdaaGreatDL
/- Plain: wk and ab0: valid, the check, equal, found; what the aqA anr give. No condition. -/
namespace Go.Proofs.YtpmifmdidfgpdaaGreat
set_option linter.all false
open Go
/-- a loop bF looks at each element and at the one ahead of it -/
theorem wW {α σ β : Type} {B : Int → α → (σ → Option β) → σ → Option β} {K : σ → Option β} {L : List α} (g : α → Bool) (p : α → α → Bool) (a : Option β) (h0 : ∀ x Z s, B ((0 : Nat) : Int) x Z s = bif g x then Z s else a)
  (hB : ∀ (j : Nat) x y r q s Z, L = q ++ y :: x :: r → j = q.length + 1 → B (j : Int) x Z s = bif g x && p y x then Z s else a) (s : σ) : bM L 0 B K s = bif L.all g && fH p L then K s else a := by
 have key : ∀ (r q : List α) (y : α) (s : σ), L = q ++ y :: r → bM r (q.length + 1) B K s = bif r.all g && fH p (y :: r) then K s else a := by
  intro r
  induction r with
  | nil => intro q y s _; rfl
  | cons x r ih =>
   intro q y s h
   simp only [bM]
   rw [hB (q.length + 1) x y r q s _ h rfl]
   have := ih (q ++ [y]) x s (by simpa using h)
   simp only [List.length_append, List.length_cons, List.length_nil] at this
   rw [this]
   simp only [fH, List.all_cons]
   cases g x <;> cases p y x <;> simp
 cases L with
 | nil => rfl
 | cons y r =>
  simp only [bM]
  rw [h0]
  have := key r [] y s rfl
  simp only [List.length_nil] at this
  rw [this, List.all_cons]
  cases g y <;> simp
/-- a loop along two lists -/
theorem su {α γ β : Type} {B : Int → α → (Unit → Option β) → Unit → Option β} {K : Unit → Option β} (e : α → γ → Bool) (a : Option β) {m : List γ} (hB : ∀ j x Z s, B j x Z s = bnd (elO m j) fun y => bif !(e x y) then a else Z s) :
  ∀ (l : List α), l.length = m.length → bM l 0 B K () = bif (l.zip m).all (fun p => e p.1 p.2) then K () else a := by
 have key : ∀ (l : List α) (q r : List γ), m = q ++ r → l.length = r.length → bM l q.length B K () = bif (l.zip r).all (fun p => e p.1 p.2) then K () else a := by
  intro l
  induction l with
  | nil => intro q r _ h; rfl
  | cons x l ih =>
   intro q r hm hl
   cases r with
   | nil => simp at hl
   | cons y r =>
    simp only [bM, hB, hm, iP, aO]
    have := ih (q ++ [y]) r (by simpa using hm) (by simpa using hl)
    simp only [List.length_append, List.length_cons, List.length_nil] at this
    rw [this, List.zip_cons_cons, List.all_cons]
    cases e x y <;> rfl
 intro l h
 exact key l [] m rfl h
def inB (n lo hi : Int) : Bool := decide (lo ≤ n) && decide (n ≤ hi)
def lp (a : ak) (x : bu) : Bool := inB x.bw 1 99 && !decide (x.bw = a.aj) && inB x.mg 1 1000 && inB x.bY 0 1000
def qi (n : Int) : Bool := decide (n = 8) || (decide (n = 16) || (decide (n = 32) || decide (n = 64)))
def kJ (c : bx) : Bool := inB c.cg 0 7 && inB c.ID 1 256 && qi c.Length
def uO (l : List bu) : Bool := fH (fun a b => decide (a.bw < b.bw)) l
def sv (l : List bx) : Bool := fH (fun a b => decide (a.cg < b.cg)) l
def cE (a : ak) : Bool := (inB a.aj 1 99 && inB a.Seq 1 1000000 && decide ((a.Links.length : Int) ≤ 23)) && (a.Links.all (lp a) && uO a.Links) && (decide ((a.Claims.length : Int) ≤ 8) && (a.Claims.all kJ && sv a.Claims))
theorem wm {x y : Int} : decide (x ≤ y) = !decide (y < x) := by
 by_cases h : y < x
 ·simp [h]
 ·simp [h]; omega
theorem abx (n lo hi : Int) : fM n lo hi = some (inB n lo hi) := rfl
theorem akz (n : Int) : lg n = some (qi n) := rfl
theorem inE (n lo hi : Int) : iF n lo hi = some (inB n lo hi) := rfl
theorem akA (n : Int) : iM n = some (qi n) := by
 unfold iM qi
 cases decide (n = 8) <;> cases decide (n = 16) <;> cases decide (n = 32) <;> cases decide (n = 64) <;> rfl
theorem yd (l : List bx) : gV l = some (decide ((l.length : Int) ≤ 8) && (l.all kJ && sv l)) := by
 unfold gV
 by_cases h : (8 : Int) < l.length
 ·have h' : ¬ (l.length : Int) ≤ 8 := by omega
  simp [h, h']
 ·have h' : (l.length : Int) ≤ 8 := by omega
  simp only [h, decide_false, cond_false, h', decide_true, Bool.true_and]
  refine (wW kJ (fun a b => decide (a.cg < b.cg)) (some false) ?_ ?_ _).trans ?_
  ·intro x Z s
   simp only [jn, abx, akz, aO, kJ]
   cases inB x.cg 0 7 <;> cases inB x.ID 1 256 <;> cases qi x.Length <;> rfl
  ·intro j x y r q s Z hL hj
   have : decide ((0 : Int) < (j : Int)) = true := by simp; omega
   simp only [jn, abx, akz, aO, kJ, mB hL hj (by omega), wm, this]
   cases inB x.cg 0 7 <;> cases inB x.ID 1 256 <;> cases qi x.Length <;> cases decide (y.cg < x.cg) <;> rfl
  ·unfold sv; cases l.all kJ && fH _ l <;> rfl
theorem pM (a : ak) : gv a = some (cE a) := by
 unfold gv cE
 simp only [jn, abx, aO]
 by_cases h : (a.Links.length : Int) ≤ 23
 ·have h' : ¬ (23 : Int) < a.Links.length := by omega
  simp only [h, h', decide_true, decide_false, Bool.and_true]
  cases inB a.aj 1 99 <;> cases inB a.Seq 1 1000000 <;> simp only [Bool.not_true, Bool.not_false, cond_true, cond_false, Bool.false_and, Bool.true_and, Bool.and_self]
  refine (wW (lp a) (fun a b => decide (a.bw < b.bw)) (some false) ?_ ?_ _).trans ?_
  ·intro x Z s
   simp only [aO, lp]
   cases inB x.bw 1 99 <;> cases decide (x.bw = a.aj) <;> cases inB x.mg 1 1000 <;> cases inB x.bY 0 1000 <;> rfl
  ·intro j x y r q s Z hL hj
   have : decide ((0 : Int) < (j : Int)) = true := by simp; omega
   simp only [aO, lp, mB hL hj (by omega), wm, this]
   cases inB x.bw 1 99 <;> cases decide (x.bw = a.aj) <;> cases inB x.mg 1 1000 <;> cases inB x.bY 0 1000 <;> cases decide (y.bw < x.bw) <;> rfl
  ·simp only [yd, aO]
   unfold uO
   cases a.Links.all (lp a) && fH _ a.Links <;> rfl
 ·have h' : (23 : Int) < a.Links.length := by omega
  simp only [h, h', decide_true, decide_false, Bool.and_false, Bool.false_and]
  cases inB a.aj 1 99 <;> cases inB a.Seq 1 1000000 <;> rfl
theorem sx (a : ak) : gF a = some (cE a) := by
 unfold gF cE
 simp only [jn, inE, aO]
 by_cases h : (a.Links.length : Int) ≤ 23
 ·have h' : ¬ (23 : Int) < a.Links.length := by omega
  by_cases hc : (a.Claims.length : Int) ≤ 8
  ·have hc' : ¬ (8 : Int) < a.Claims.length := by omega
   simp only [h, h', hc, hc', decide_true, decide_false, Bool.and_true, Bool.true_and]
   cases inB a.aj 1 99 <;> cases inB a.Seq 1 1000000 <;> simp only [Bool.not_true, Bool.not_false, cond_true, cond_false, Bool.false_and, Bool.true_and, Bool.and_self]
   refine (wW (lp a) (fun a b => decide (a.bw < b.bw)) (some false) ?_ ?_ _).trans ?_
   ·intro x Z s
    simp only [aO, lp]
    cases inB x.bw 1 99 <;> cases decide (x.bw = a.aj) <;> cases inB x.mg 1 1000 <;> cases inB x.bY 0 1000 <;> rfl
   ·intro j x y r q s Z hL hj
    have : decide ((0 : Int) < (j : Int)) = true := by simp; omega
    simp only [aO, lp, mB hL hj (by omega), wm, this]
    cases inB x.bw 1 99 <;> cases decide (x.bw = a.aj) <;> cases inB x.mg 1 1000 <;> cases inB x.bY 0 1000 <;> cases decide (y.bw < x.bw) <;> rfl
   ·refine Eq.trans (b := bif a.Links.all (lp a) && uO a.Links then (bif a.Claims.all kJ && sv a.Claims then some true else some false) else some false) ?_ ?_
    ·unfold uO
     congr 1
     refine (wW kJ (fun a b => decide (a.cg < b.cg)) (some false) ?_ ?_ _).trans ?_
     ·intro x Z s
      simp only [akA, aO, kJ]
      cases inB x.cg 0 7 <;> cases inB x.ID 1 256 <;> cases qi x.Length <;> rfl
     ·intro j x y r q s Z hL hj
      have : decide ((0 : Int) < (j : Int)) = true := by simp; omega
      simp only [akA, aO, kJ, mB hL hj (by omega), wm, this]
      cases inB x.cg 0 7 <;> cases inB x.ID 1 256 <;> cases qi x.Length <;> cases decide (y.cg < x.cg) <;> rfl
     ·rfl
    ·cases a.Links.all (lp a) && uO a.Links <;> cases a.Claims.all kJ && sv a.Claims <;> rfl
  ·have hc' : (8 : Int) < a.Claims.length := by omega
   simp only [h, h', hc, hc', decide_true, decide_false, Bool.and_false, Bool.false_and]
   cases inB a.aj 1 99 <;> cases inB a.Seq 1 1000000 <;> rfl
 ·have h' : (23 : Int) < a.Links.length := by omega
  simp only [h, h', decide_true, decide_false, Bool.and_false, Bool.false_and]
  cases inB a.aj 1 99 <;> cases inB a.Seq 1 1000000 <;> rfl
/-! the check -/
def adj (d : aH) : Bool := fH (fun a b => decide (a.aj < b.aj)) d.ay
def dbC (d : aH) : Int := bif decide ((99 : Int) < (d.ay.length : Int)) then 3 else bif d.ay.all cE then (bif adj d then 0 else 25) else 1
theorem vz (d : aH) : jY d = some (dbC d) := by
 unfold jY dbC
 by_cases h : (99 : Int) < d.ay.length
 ·simp [h]
 simp only [h, decide_false, cond_false]
 refine (qh (fun a => !cE a) (some 1) ?_ _ _ _).trans ?_
 ·intro j x Z s; simp only [pM, aO]
 rw [← List.not_all_eq_any_not]
 cases d.ay.all cE
 ·rfl
 simp only [Bool.not_true, cond_false, cond_true]
 refine (x2 (fun a b : ak => decide (a.aj < b.aj)) (some 25) ?_ _).trans ?_
 ·intro j x y r q s Z hL hj
  simp only [mB hL hj (by omega), aO, wm]
  cases decide (y.aj < x.aj) <;> rfl
 ·unfold adj; cases fH _ d.ay <;> rfl
theorem cfA (l : List ak) (f : ak → Option Bool) (p : ak → Bool) (hf : ∀ x, f x = some (p x)) : de l f = some (l.any p) := by
 unfold de dU
 obtain ⟨r, h1, h2⟩ := uL (B := fun (j1 : Int) (e1 : ak) (Z1 : Unit → Option Int) (sg : Unit) => match sg with | () => bnd (f e1) fun (af : Bool) => bif af then some (j1 : Int) else Z1 ()) (K := fun (sg : Unit) => match sg with | () => some (-1:Int)) p (fun j x Z s => by simp only [hf, aO]) (fun _ => rfl) l 0 ()
 simp only [h1, aO, h2]
theorem aal (d : aH) : fB d = some (dbC d) := by
 unfold fB dbC
 by_cases h : (99 : Int) < d.ay.length
 ·simp [h]
 simp only [h, decide_false, cond_false]
 rw [cfA d.ay _ (fun a => !cE a) (fun x => by simp only [lZ, sx, aO]), aO]
 rw [← List.not_all_eq_any_not]
 cases d.ay.all cE
 ·rfl
 simp only [Bool.not_true, cond_false, cond_true]
 refine (x3 (fun a b : ak => decide (a.aj < b.aj)) (some 25) ?_ ?_ _).trans ?_
 ·intros; rfl
 ·intro j x y r q s Z hL hj
  have : decide ((0 : Int) < (j : Int)) = true := by simp; omega
  simp only [jn, mB hL hj (by omega), aO, wm, this]
  cases decide (y.aj < x.aj) <;> rfl
 ·unfold adj; cases fH _ d.ay <;> rfl
/-! equal -/
def aam (l m : List bu) : Bool := decide ((l.length : Int) = m.length) && (l.zip m).all (fun p => hU p.1 p.2)
def aan (l m : List bx) : Bool := decide ((l.length : Int) = m.length) && (l.zip m).all (fun p => fO p.1 p.2)
def mJ (a b : ak) : Bool := decide (a.aj = b.aj) && (decide (a.Seq = b.Seq) && ((a.bh == b.bh) && (aam a.Links b.Links && aan a.Claims b.Claims)))
theorem aqG (l m : List bu) : gn l m = some (aam l m) := by
 unfold gn aam
 by_cases h : (l.length : Int) = m.length
 ·simp only [h, decide_true, Bool.not_true, cond_false, Bool.true_and]
  rw [su hU (some false) (fun j x Z s => rfl) l (by omega)]
  cases (l.zip m).all _ <;> rfl
 ·simp [h]
theorem aqH (l m : List bx) : gp l m = some (aan l m) := by
 unfold gp aan
 by_cases h : (l.length : Int) = m.length
 ·simp only [h, decide_true, Bool.not_true, cond_false, Bool.true_and]
  rw [su fO (some false) (fun j x Z s => rfl) l (by omega)]
  cases (l.zip m).all _ <;> rfl
 ·simp [h]
theorem aej (a b : ak) : jZ a b = some (mJ a b) := by
 unfold jZ mJ
 simp only [aqG, aqH, aO]
 cases decide (a.aj = b.aj) <;> cases decide (a.Seq = b.Seq) <;> cases (a.bh == b.bh) <;> cases aam a.Links b.Links <;> cases aan a.Claims b.Claims <;> rfl
theorem wX (a b : ak) : kV a b = some (mJ a b) := by
 unfold kV mJ aam aan
 by_cases hl : (a.Links.length : Int) = b.Links.length
 ·by_cases hc : (a.Claims.length : Int) = b.Claims.length
  ·simp only [hl, hc, decide_true, Bool.not_true, Bool.or_false, Bool.true_and]
   rw [su hU (some false) (fun j x Z s => rfl) a.Links (by omega), su fO (some false) (fun j x Z s => rfl) a.Claims (by omega)]
   cases decide (a.aj = b.aj) <;> cases decide (a.Seq = b.Seq) <;> cases (a.bh == b.bh) <;> cases (a.Links.zip b.Links).all _ <;> cases (a.Claims.zip b.Claims).all _ <;> rfl
  ·simp [hc]
 ·simp [hl]
def mK (a b : aH) : Bool := decide ((a.ay.length : Int) = b.ay.length) && (a.ay.zip b.ay).all (fun p => mJ p.1 p.2)
theorem wY (a b : aH) : iL a b = some (mK a b) := by
 unfold iL mK
 by_cases h : (a.ay.length : Int) = b.ay.length
 ·simp only [h, decide_true, Bool.not_true, cond_false, Bool.true_and]
  rw [su (m := b.ay) mJ (some false) (fun j x Z s => by simp only [wX, aO]) a.ay (by omega)]
  cases (a.ay.zip b.ay).all _ <;> rfl
 ·simp [h]
theorem anv (a b : aH) : jU a b = some (mK a b) := by
 unfold jU cB mK
 by_cases h : (a.ay.length : Int) = b.ay.length
 ·simp only [h, decide_true, Bool.not_true, cond_false, Bool.true_and]
  rw [su (m := b.ay) mJ (some false) (fun j x Z s => by simp only [aej, aO]) a.ay (by omega)]
  cases (a.ay.zip b.ay).all _ <;> rfl
 ·simp [h, aO]
theorem acj (a : bu) : hU a a = true := by simp [hU]
theorem xy (a : bx) : fO a a = true := by simp [fO]
theorem wZ {α : Type} (e : α → α → Bool) (h : ∀ x, e x x = true) : ∀ l : List α, (l.zip l).all (fun p => e p.1 p.2) = true
 | [] => rfl
 | x :: r => by simp only [List.zip_cons_cons, List.all_cons, h, wZ e h r, Bool.and_self]
theorem aaS (a : ak) : mJ a a = true := by
 unfold mJ aam aan
 rw [wZ hU acj, wZ fO xy]; simp
/-! found -/
def noA : ak := ak.mk 0 0 false [] []
def gf (d : aH) (r : Int) : ak × Bool := match d.ay.find? (fun a => decide (a.aj = r)) with | some a => (a, true) | none => (noA, false)
theorem aaT (d : aH) (r : Int) : mX d r = some (gf d r) := by
 unfold mX
 rw [sV (fun a : ak => decide (a.aj = r)) (fun a => some (a, true)) (fun j x Z s => rfl)]
 unfold gf
 cases d.ay.find? _ <;> rfl
/-- lists of a size bF can be copied -/
def SmA (a : ak) : Prop := a.Links.length ≤ 100000 ∧ a.Claims.length ≤ 100000
def SmD (d : aH) : Prop := d.ay.length ≤ 100000 ∧ ∀ a ∈ d.ay, SmA a
theorem agp {l : List bu} (h : l.length ≤ 100000) : dy l = some l := by
 unfold dy dI
 rw [dZ (by simp; omega)]; rfl
theorem adk {l : List bx} (h : l.length ≤ 100000) : cR l = some l := by
 unfold cR dH
 rw [dZ (by simp; omega)]; rfl
theorem vh {a : ak} (h : SmA a) : eT a = some a := by
 unfold eT
 rw [agp h.1, aO, adk h.2, aO]
theorem anw {d : aH} (h : SmD d) (r : Int) : jV d r = some (gf d r) := by
 unfold jV
 rw [sV (fun a : ak => decide (a.aj = r)) (fun a => bnd (eT a) fun (af : ak) => some (af, true)) (fun j x Z s => rfl)]
 unfold gf
 cases hf : d.ay.find? (fun a => decide (a.aj = r)) with
 | none => rfl
 | some a => simp only [vh (h.2 a (List.mem_of_find?_eq_some hf)), aO]
end Go.Proofs.YtpmifmdidfgpdaaGreat

/- Plain: the ab0 bF the tape ajs: aeF sizes, and bF yM ajc acy are valid. No condition. -/
namespace Go.Proofs.YtpmifmdidfgpdaaGreat
set_option linter.all false
open Go
theorem ab1 {t : aP} (h : cH t) : Ok (jl t) (fun p => qi p.1 = true ∧ cH p.2) := by
 unfold jl
 refine Ok.bnd (kP h (by decide) (by decide)) fun p hp => Ok.s ⟨?_, hp.2⟩
 have := hp.1
 simp only [List.mem_cons, List.not_mem_nil, or_false] at this
 show qi p.1 = true
 simp only [qi, Bool.or_eq_true, decide_eq_true_eq]; omega
theorem yX {α : Type} {p : α → α → Bool} : ∀ {l : List α} {x : α}, fH p l = true → (∀ y ∈ l, p y x = true) → fH p (l ++ [x]) = true
 | [], _, _, _ => rfl
 | [a], x, _, h => by simp [fH, h a (by simp)]
 | a :: b :: r, x, h, hx => by
  simp only [fH, Bool.and_eq_true] at h
  simp only [List.cons_append, fH, Bool.and_eq_true]
  exact ⟨h.1, yX h.2 fun y hy => hx y (by simp [hy])⟩
theorem aby {α : Type} {p : α → Bool} {l : List α} {x : α} (h : l.all p = true) (hx : p x = true) : (l ++ [x]).all p = true := by simp [h, hx] 
/-- an ye of the tape -/
theorem ab2 {t : aP} {r n : Int} (h : cH t) (hn : n ≤ 9223372036854775807) : Ok (jo t r n) (fun p => SmA p.1 ∧ (n = 0 → 1 ≤ r → r ≤ 99 → cE p.1 = true ∧ p.1.aj = r ∧ ∀ l ∈ p.1.Links, l.bw ≤ 6) ∧ cH p.2) := by
 unfold jo
 refine Ok.bnd (kP h (by decide) (by decide)) fun p1 h1 => ?_
 have hseq : inB p1.1 1 1000000 = true := by
  have := h1.1
  simp only [List.mem_cons, List.not_mem_nil, or_false] at this
  simp only [inB, Bool.and_eq_true, decide_eq_true_eq]; omega
 refine Ok.bnd (fZ h1.2 (by omega)) fun p2 h2 => ?_
 refine Ok.eU (fun j (s : List bu × List Int × Int) => ((s.1.length : Int) ≤ j - 1 ∧ (1 ≤ r → s.1.all (lp (ak.mk r 0 false [] [])) = true) ∧ uO s.1 = true ∧ (∀ x ∈ s.1, x.bw < j)) ∧ cH (aP.mk s.2.1 s.2.2)) 1 7 ?_ ?_ _ _ _ rfl (by omega) (by omega) ⟨by simp [uO, fH], h2.2⟩
 ·intro j s Z hj1 hj2 hI hZ
  obtain ⟨ls, L, At⟩ := s
  obtain ⟨⟨q1, q2, q3, q4⟩, ht⟩ := hI
  simp only at q1 q2 q3 q4
  refine Ok.jn (fun s : List Int × Int × List bu => ((s.2.2.length : Int) ≤ j ∧ (1 ≤ r → s.2.2.all (lp (ak.mk r 0 false [] [])) = true) ∧ uO s.2.2 = true ∧ (∀ x ∈ s.2.2, x.bw < j + 1)) ∧ cH (aP.mk s.1 s.2.1)) (fun s hs => hZ _ ⟨⟨by have := hs.1.1; obtain ⟨_, _, _⟩ := s; simp only at this ⊢; omega, hs.1.2.1, hs.1.2.2⟩, hs.2⟩) fun J1 hJ1 => ?_
  have stay : ∀ L At, cH (aP.mk L At) → Ok (J1 (L, At, ls)) _ := fun L At ht => hJ1 _ ⟨⟨by show (ls.length : Int) ≤ j; omega, q2, q3, fun x hx => by have := q4 x hx; omega⟩, ht⟩
  refine Ok.jn (fun s : Bool × List Int × Int => (s.1 = true → j ≠ r) ∧ cH (aP.mk s.2.1 s.2.2)) (fun s hs => ?_) fun J2 hJ2 => ?_
  ·obtain ⟨v, L2, At2⟩ := s
   refine Ok.cs (fun hv => ?_) fun _ => stay _ _ hs.2
   refine Ok.bnd (mC hs.2) fun p4 h4 => ?_
   refine Ok.bnd (fZ h4.2 (by omega)) fun p5 h5 => ?_
   refine Ok.bnd (gr (by simp; omega)) fun l1 hl1 => ?_
   obtain ⟨hl1, hl2⟩ := hl1
   have hc := h4.1 (by omega) (by omega) (by omega)
   have hcap := h5.1
   refine hJ1 _ ⟨⟨by simp only; rw [hl2]; simp; omega, fun hr => ?_, ?_, ?_⟩, h5.2⟩
   ·simp only [hl1]
    refine aby (q2 hr) ?_
    have hne := hs.1 hv
    simp only [lp, inB, Bool.and_eq_true, decide_eq_true_eq, Bool.not_eq_true', decide_eq_false_iff_not]
    have := hcap.2.1 (by omega)
    omega
   ·simp only [hl1, uO]
    exact yX q3 fun y hy => by simpa using q4 y hy
   ·simp only [hl1]
    intro x hx
    rcases List.mem_append.1 hx with hx | hx
    ·have := q4 x hx; omega
    ·simp at hx; subst hx; show j < j + 1; omega
  ·refine Ok.cs (fun hc => ?_) fun _ => hJ2 _ ⟨by simp, ht⟩
   refine Ok.bnd (fZ ht (by omega)) fun p3 h3 => hJ2 _ ⟨fun _ => by simpa using hc, h3.2⟩
 intro j s hj1 hj2 hI
 obtain ⟨ls, L, At⟩ := s
 obtain ⟨⟨q1, q2, q3, q4⟩, ht⟩ := hI
 have hj := hj2 (by omega)
 subst hj
 simp only at q1 q2 q3 q4
 refine Ok.eU (fun k (s : List bx × List Int × Int) => ((s.1.length : Int) ≤ k ∧ s.1.all kJ = true ∧ sv s.1 = true ∧ (∀ x ∈ s.1, x.cg < k)) ∧ cH (aP.mk s.2.1 s.2.2)) 0 2 ?_ ?_ _ _ _ rfl (by omega) (by omega) ⟨by simp [sv, fH], ht⟩
 ·intro k s Z hk1 hk2 hI hZ
  obtain ⟨cs, L, At⟩ := s
  obtain ⟨⟨r1, r2, r3, r4⟩, ht⟩ := hI
  simp only at r1 r2 r3 r4
  refine Ok.jn (fun s : List Int × Int × List bx => ((s.2.2.length : Int) ≤ k + 1 ∧ s.2.2.all kJ = true ∧ sv s.2.2 = true ∧ (∀ x ∈ s.2.2, x.cg < k + 1)) ∧ cH (aP.mk s.1 s.2.1)) (fun s hs => hZ _ ⟨hs.1, hs.2⟩) fun J3 hJ3 => ?_
  refine Ok.bnd (fZ ht (by omega)) fun p6 h6 => ?_
  refine Ok.cs (fun _ => ?_) fun _ => hJ3 _ ⟨⟨by show (cs.length : Int) ≤ _; omega, r2, r3, fun x hx => by have := r4 x hx; omega⟩, h6.2⟩
  refine Ok.bnd (mC h6.2) fun p7 h7 => ?_
  refine Ok.bnd (ab1 h7.2) fun p8 h8 => ?_
  refine Ok.bnd (gr (by simp; omega)) fun l2 hl2 => ?_
  obtain ⟨hl1, hl2⟩ := hl2
  have hid := h7.1 (by omega) (by omega) (by omega)
  refine hJ3 _ ⟨⟨by simp only; rw [hl2]; simp; omega, ?_, ?_, ?_⟩, h8.2⟩
  ·simp only [hl1]
   refine aby r2 ?_
   simp only [kJ, inB, h8.1, Bool.and_true, Bool.and_eq_true, decide_eq_true_eq]
   omega
  ·simp only [hl1, sv]
   exact yX r3 fun y hy => by simpa using r4 y hy
  ·simp only [hl1]
   intro x hx
   rcases List.mem_append.1 hx with hx | hx
   ·have := r4 x hx; omega
   ·simp at hx; subst hx; show k < k + 1; omega
 intro k s hk1 hk2 hI
 obtain ⟨cs, L, At⟩ := s
 obtain ⟨⟨r1, r2, r3, r4⟩, ht⟩ := hI
 have hk := hk2 (by omega)
 subst hk
 simp only at r1 r2 r3 r4
 refine Ok.jn (fun s : List Int × Int × Int × Int × List bu × List bx => (s.2.2.2.2.1.length ≤ 100000 ∧ s.2.2.2.2.2.length ≤ 100000) ∧ (n = 0 → s.2.2 = (r, p1.1, ls, cs)) ∧ cH (aP.mk s.1 s.2.1)) (fun s hs => ?_) fun J4 hJ4 => ?_
 ·obtain ⟨a1, a2, a3, a4, a5, a6⟩ := s
  refine Ok.s ⟨hs.1, fun hn hr1 hr2 => ?_, hs.2.2⟩
  have := hs.2.1 hn
  simp only [Prod.mk.injEq] at this
  obtain ⟨rfl, rfl, rfl, rfl⟩ := this
  refine ⟨?_, rfl, fun l hl => by have := q4 l hl; omega⟩
  have g1 : a5.all (lp (ak.mk a3 p1.1 (decide ((0:Int) < p2.1)) a5 a6)) = true := q2 hr1
  simp only [inB, Bool.and_eq_true, decide_eq_true_eq] at hseq
  simp only [cE, g1, q3, r2, r3, Bool.and_true, Bool.true_and, Bool.and_eq_true, decide_eq_true_eq, inB]
  omega
 refine Ok.jn (fun s : Bool × List Int × Int => (n = 0 → s.1 = false) ∧ cH (aP.mk s.2.1 s.2.2)) (fun s hs => ?_) fun J5 hJ5 => ?_
 ·obtain ⟨v, L2, At2⟩ := s
  have base : ∀ L At a b (l : List bu) (c : List bx), n ≠ 0 → l.length ≤ 100000 → c.length ≤ 100000 → cH (aP.mk L At) → Ok (J4 (L, At, a, b, l, c)) _ := fun L At a b l c hn h1 h2 h3 => hJ4 _ ⟨⟨h1, h2⟩, fun h => absurd h hn, h3⟩
  refine Ok.cs (fun hv => ?_) fun _ => hJ4 _ ⟨⟨by show ls.length ≤ _; omega, by show cs.length ≤ _; omega⟩, fun _ => rfl, hs.2⟩
  have hn0 : n ≠ 0 := fun e => by have := hs.1 e; simp only at hv this; rw [hv] at this; cases this
  refine Ok.bnd (fZ hs.2 (by omega)) fun p10 h10 => ?_
  refine Ok.cs (fun _ => Ok.bnd (yT h10.2) fun q hq => base _ _ _ _ _ _ hn0 (by omega) (by omega) hq) fun _ => ?_
  refine Ok.cs (fun _ => Ok.bnd (yT h10.2) fun q hq => base _ _ _ _ _ _ hn0 (by omega) (by omega) hq) fun _ => ?_
  refine Ok.cs (fun _ => ?_) fun _ => ?_
  ·refine Ok.bnd (kP h10.2 (by simp) (by simp)) fun q1' g1 => Ok.bnd (kP g1.2 (by decide) (by decide)) fun q2' g2 => Ok.bnd (kP g2.2 (by decide) (by decide)) fun q3' g3 => ?_
   exact Ok.bnd (gr (by simp; omega)) fun l hl => base _ _ _ _ _ _ hn0 (by rw [hl.2]; simp; omega) (by omega) g3.2
  refine Ok.cs (fun _ => ?_) fun _ => ?_
  ·refine Ok.bnd (kP h10.2 (by decide) (by decide)) fun q1' g1 => Ok.bnd (kP g1.2 (by decide) (by decide)) fun q2' g2 => Ok.bnd (kP g2.2 (by decide) (by decide)) fun q3' g3 => ?_
   exact Ok.bnd (gr (by simp; omega)) fun l hl => base _ _ _ _ _ _ hn0 (by omega) (by rw [hl.2]; simp; omega) g3.2
  refine Ok.cs (fun _ => ?_) fun _ => ?_
  ·refine Ok.eU (fun j (m : List bu) => (m.length : Int) ≤ ls.length + (j - 30)) 30 54 ?_ ?_ _ _ _ rfl (by omega) (by omega) (by omega)
   ·intro j m Z hj1 hj2 hI hZ
    exact Ok.bnd (gr (by simp; omega)) fun l hl => hZ _ (by rw [hl.2]; simp; omega)
   ·intro j m hj1 hj2 hI
    have := hj2 (by omega)
    exact base _ _ _ _ _ _ hn0 (by omega) (by omega) h10.2
  refine Ok.cs (fun hl0 => ?_) fun _ => base _ _ _ _ _ _ hn0 (by omega) (by omega) h10.2
  refine Ok.bnd (yT h10.2) fun q hq => ?_
  simp at hl0
  refine Ok.bnd (kY (by omega) (by omega)) fun e he => ?_
  exact Ok.bnd (agd (by omega) (by omega)) fun l hl => base _ _ _ _ _ _ hn0 (by rw [hl.2]; omega) (by omega) hq
 ·refine Ok.cs (fun hc => ?_) fun _ => hJ5 _ ⟨fun _ => rfl, ht⟩
  have : n ≠ 0 := by simp at hc; omega
  exact Ok.bnd (wh ht hn) fun q hq => hJ5 _ ⟨fun e => absurd e this, hq⟩
theorem zp {t : aP} {n : Int} (h : cH t) (hn : n ≤ 9223372036854775807) : Ok (iy t n) (fun p => (SmD p.1 ∧ p.1.ay.length ≤ 7 ∧ (n = 0 → dbC p.1 = 0 ∧ (∀ a ∈ p.1.ay, a.aj ≤ 6) ∧ ∀ a ∈ p.1.ay, ∀ l ∈ a.Links, l.bw ≤ 6) ) ∧ cH p.2) := by
 unfold iy
 refine Ok.eU (fun j (s : List ak × List Int × Int) => ((s.1.length : Int) ≤ j - 1 ∧ (∀ a ∈ s.1, SmA a) ∧ s.1.all cE = true ∧ fH (fun a b : ak => decide (a.aj < b.aj)) s.1 = true ∧ (∀ a ∈ s.1, a.aj < j) ∧ ∀ a ∈ s.1, ∀ l ∈ a.Links, l.bw ≤ 6) ∧ cH (aP.mk s.2.1 s.2.2)) 1 7 ?_ ?_ _ _ _ rfl (by omega) (by omega) ⟨by simp [fH], h⟩
 ·intro j s Z hj1 hj2 hI hZ
  obtain ⟨ads, L, At⟩ := s
  obtain ⟨⟨q1, q2, q3, q4, q5, q6⟩, ht⟩ := hI
  simp only at q1 q2 q3 q4 q5 q6
  refine Ok.jn (fun s : List Int × Int × List ak => ((s.2.2.length : Int) ≤ j ∧ (∀ a ∈ s.2.2, SmA a) ∧ s.2.2.all cE = true ∧ fH (fun a b : ak => decide (a.aj < b.aj)) s.2.2 = true ∧ (∀ a ∈ s.2.2, a.aj < j + 1) ∧ ∀ a ∈ s.2.2, ∀ l ∈ a.Links, l.bw ≤ 6) ∧ cH (aP.mk s.1 s.2.1)) (fun s hs => hZ _ ⟨⟨by have := hs.1.1; obtain ⟨_, _, _⟩ := s; simp only at this ⊢; omega, hs.1.2⟩, hs.2⟩) fun J1 hJ1 => ?_
  refine Ok.bnd (fZ ht (by omega)) fun p1 h1 => ?_
  refine Ok.cs (fun _ => ?_) fun _ => hJ1 _ ⟨⟨by show (ads.length : Int) ≤ j; omega, q2, q3, q4, fun a ha => by have := q5 a ha; omega, q6⟩, h1.2⟩
  refine Ok.bnd (ab2 (n := 0) h1.2 (by omega)) fun p2 h2 => ?_
  obtain ⟨g1, g2, g3⟩ := h2
  have g2 := g2 rfl (by omega) (by omega)
  refine Ok.bnd (gr (by simp; omega)) fun l hl => ?_
  obtain ⟨hl, hl2⟩ := hl
  refine hJ1 _ ⟨⟨by simp only; rw [hl2]; simp; omega, ?_, ?_, ?_, ?_, ?_⟩, g3⟩
  ·simp only [hl]; intro a ha
   rcases List.mem_append.1 ha with ha | ha
   ·exact q2 a ha
   ·simp at ha; subst ha; exact g1
  ·simp only [hl]; exact aby q3 g2.1
  ·simp only [hl]; exact yX q4 fun y hy => by have := q5 y hy; simp [g2.2.1]; omega
  ·simp only [hl]; intro a ha
   rcases List.mem_append.1 ha with ha | ha
   ·have := q5 a ha; omega
   ·simp at ha; subst ha; rw [g2.2.1]; omega
  ·simp only [hl]; intro a ha
   rcases List.mem_append.1 ha with ha | ha
   ·exact q6 a ha
   ·simp at ha; subst ha; exact g2.2.2
 intro j s hj1 hj2 hI
 obtain ⟨ads, L, At⟩ := s
 obtain ⟨⟨q1, q2, q3, q4, q5, q6⟩, ht⟩ := hI
 have hj := hj2 (by omega)
 subst hj
 simp only at q1 q2 q3 q4 q5 q6
 refine Ok.jn (fun s : List Int × Int × List ak => (s.2.2.length ≤ 7 ∧ (∀ a ∈ s.2.2, SmA a) ∧ (n = 0 → s.2.2 = ads)) ∧ cH (aP.mk s.1 s.2.1)) (fun s hs => ?_) fun J2 hJ2 => ?_
 ·obtain ⟨a1, a2, a3⟩ := s
  obtain ⟨⟨g1, g2, g3⟩, g4⟩ := hs
  simp only at g1 g2 g3
  refine Ok.s ⟨⟨⟨by show a3.length ≤ _; omega, g2⟩, g1, fun h0 => ?_⟩, g4⟩
  have := g3 h0
  subst this
  refine ⟨?_, fun a ha => by have := q5 a ha; omega, q6⟩
  have e : ¬ (99 : Int) < a3.length := by omega
  simp only [dbC, q3, adj, q4, e, decide_false, cond_true, cond_false]
 refine Ok.jn (fun s : Bool × List Int × Int => (n = 0 → s.1 = false) ∧ cH (aP.mk s.2.1 s.2.2)) (fun s hs => ?_) fun J3 hJ3 => ?_
 ·obtain ⟨v, L2, At2⟩ := s
  refine Ok.cs (fun hv => ?_) fun _ => hJ2 _ ⟨⟨by show ads.length ≤ _; omega, q2, fun _ => rfl⟩, hs.2⟩
  have hn0 : n ≠ 0 := fun e => by have := hs.1 e; simp only at hv this; rw [hv] at this; cases this
  refine Ok.bnd (kP hs.2 (by decide) (by decide)) fun p4 h4 => ?_
  refine Ok.bnd (ab2 h4.2 (by omega)) fun p5 h5 => ?_
  refine Ok.bnd (gr (by simp; omega)) fun l hl => ?_
  obtain ⟨hl, hl2⟩ := hl
  refine hJ2 _ ⟨⟨by simp only; rw [hl2]; simp; omega, ?_, fun e => absurd e hn0⟩, h5.2.2⟩
  simp only [hl]; intro a ha
  rcases List.mem_append.1 ha with ha | ha
  ·exact q2 a ha
  ·simp at ha; subst ha; exact h5.1
 ·refine Ok.cs (fun hc => ?_) fun _ => hJ3 _ ⟨fun _ => rfl, ht⟩
  have : n ≠ 0 := by simp at hc; omega
  exact Ok.bnd (wh ht hn) fun q hq => hJ3 _ ⟨fun e => absurd e this, hq⟩
end Go.Proofs.YtpmifmdidfgpdaaGreat

/- Plain: the View of a database, by both. No condition. -/
namespace Go.Proofs.YtpmifmdidfgpdaaGreat
set_option linter.all false
open Go
structure Vd (d : aH) : Prop where
 n : d.ay.length ≤ 99
 ok : ∀ a ∈ d.ay, cE a = true
 asc : d.ay.Pairwise (fun a b => a.aj < b.aj)
theorem sX {d : aH} : dbC d = 0 ↔ Vd d := by
 unfold dbC adj
 constructor
 ·intro h
  by_cases h1 : (99 : Int) < d.ay.length
  ·simp [h1] at h
  cases h2 : d.ay.all cE
  ·simp [h1, h2] at h
  cases h3 : fH (fun a b : ak => decide (a.aj < b.aj)) d.ay
  ·simp [h1, h2, h3] at h
  refine ⟨by omega, fun a ha => List.all_eq_true.1 h2 a ha, ?_⟩
  have := oU (p := fun a b : ak => decide (a.aj < b.aj)) (fun a b c h1 h2 => by simp at h1 h2 ⊢; omega) h3
  exact this.imp (fun h => by simpa using h)
 ·intro h
  have h1 : ¬ (99 : Int) < d.ay.length := by have := h.n; omega
  have h2 : d.ay.all cE = true := List.all_eq_true.2 h.ok
  have h3 : fH (fun a b : ak => decide (a.aj < b.aj)) d.ay = true := nt (h.asc.imp fun h => by simpa using h)
  simp [h1, h2, h3]
structure Va (a : ak) : Prop where
 r : 1 ≤ a.aj ∧ a.aj ≤ 99
 n : a.Links.length ≤ 23
 nc : a.Claims.length ≤ 8
 g : ∀ x ∈ a.Links, (1 ≤ x.bw ∧ x.bw ≤ 99) ∧ x.bw ≠ a.aj ∧ (1 ≤ x.mg ∧ x.mg ≤ 1000) ∧ 0 ≤ x.bY ∧ x.bY ≤ 1000
 asc : a.Links.Pairwise (fun x y => x.bw < y.bw)
theorem acv {a : ak} (h : cE a = true) : Va a := by
 simp only [cE, Bool.and_eq_true, decide_eq_true_eq, inB] at h
 obtain ⟨⟨⟨⟨h1, _⟩, h2⟩, h3, h4⟩, h5, _⟩ := h
 refine ⟨h1, by omega, by omega, fun x hx => ?_, ?_⟩
 ·have := List.all_eq_true.1 h3 x hx
  simp only [lp, inB, Bool.and_eq_true, decide_eq_true_eq, Bool.not_eq_true', decide_eq_false_iff_not] at this
  exact ⟨this.1.1.1, this.1.1.2, this.1.2, this.2⟩
 ·have := oU (p := fun a b : bu => decide (a.bw < b.bw)) (fun a b c h1 h2 => by simp at h1 h2 ⊢; omega) h4
  exact this.imp (fun h => by simpa using h)
theorem Vd.sm {d : aH} (h : Vd d) : SmD d := ⟨by have := h.n; omega, fun a ha => by have := acv (h.ok a ha); exact ⟨by have := this.n; omega, by have := this.nc; omega⟩⟩
theorem aao {α : Type} {f : α → Int} : ∀ {l : List α}, l.Pairwise (fun a b => f a < f b) → ∀ {a b : α}, a ∈ l → b ∈ l → f a = f b → a = b
 | [], _, _, _, h, _, _ => by simp at h
 | x :: r, hp, a, b, ha, hb, he => by
  rw [List.pairwise_cons] at hp
  rcases List.mem_cons.1 ha with ea | ha'
  ·rcases List.mem_cons.1 hb with eb | hb'
   ·rw [ea, eb]
   ·have := hp.1 b hb'; rw [ea] at he; omega
  ·rcases List.mem_cons.1 hb with eb | hb'
   ·have := hp.1 a ha'; rw [eb] at he; omega
   ·exact aao hp.2 ha' hb' he
theorem Vd.uniq {d : aH} (h : Vd d) {a b : ak} (ha : a ∈ d.ay) (hb : b ∈ d.ay) (he : a.aj = b.aj) : a = b := aao h.asc ha hb he
theorem Va.uniq {a : ak} (h : Va a) {x y : bu} (hx : x ∈ a.Links) (hy : y ∈ a.Links) (he : x.bw = y.bw) : x = y := aao h.asc hx hy he
theorem tN (d : aH) (r : Int) : (∃ a ∈ d.ay, a.aj = r ∧ gf d r = (a, true)) ∨ ((∀ a ∈ d.ay, a.aj ≠ r) ∧ gf d r = (noA, false)) := by
 unfold gf
 cases h : d.ay.find? (fun a => decide (a.aj = r)) with
 | some a => exact .inl ⟨a, List.mem_of_find?_eq_some h, by simpa using List.find?_some h, rfl⟩
 | none => exact .inr ⟨fun a ha => by simpa using List.find?_eq_none.1 h a ha, rfl⟩
theorem anx {d : aH} (h : Vd d) {a : ak} (ha : a ∈ d.ay) : gf d a.aj = (a, true) := by
 rcases tN d a.aj with ⟨b, hb, he, hf⟩ | ⟨hn, _⟩
 ·rw [hf, h.uniq hb ha he]
 ·exact absurd rfl (hn a ha)
/-! links -/
def LkD (d : aH) (a b : Int) : Prop := ∃ x ∈ d.ay, ∃ y ∈ d.ay, x.aj = a ∧ y.aj = b ∧ (∃ p ∈ x.Links, p.bw = b) ∧ ∃ q ∈ y.Links, q.bw = a
theorem LkD.symm {d : aH} {a b : Int} (h : LkD d a b) : LkD d b a := by
 obtain ⟨x, hx, y, hy, e1, e2, p, q⟩ := h
 exact ⟨y, hy, x, hx, e2, e1, q, p⟩
def mkL (x : ak) (p : bu) (y : ak) (q : bu) : aX := aX.mk x.aj y.aj p.mg q.mg (if q.bY < p.bY then q.bY else p.bY)
/-- the link of x to y -/
def IsLy (x y : ak) (l : aX) : Prop := ∃ p ∈ x.Links, ∃ q ∈ y.Links, x.aj < y.aj ∧ p.bw = y.aj ∧ q.bw = x.aj ∧ l = mkL x p y q
inductive Rd (d : aH) (at1 : Int) : Int → Prop
 | refl : Rd d at1 at1
 | step {a b : Int} (h : Rd d at1 a) (hl : LkD d a b) : Rd d at1 b
structure IsV (d : aH) (at1 : Int) (T : aB) : Prop where
 aqI : T.aK.Pairwise (fun a b => a.ID < b.ID)
 aqJ : ∀ r, r ∈ T.aK ↔ ∃ a ∈ d.ay, Rd d at1 a.aj ∧ r = aZ.mk a.aj a.bh
 aqK : T.Links.Pairwise (fun a b => ltL a b = true)
 aqL : ∀ l, l ∈ T.Links ↔ ∃ x ∈ d.ay, Rd d at1 x.aj ∧ ∃ y ∈ d.ay, IsLy x y l
theorem tO {α : Type} {r : α → α → Prop} (hi : ∀ a, ¬ r a a) (ht : ∀ a b c, r a b → r b c → r a c) : ∀ {l m : List α}, l.Pairwise r → m.Pairwise r → (∀ x, x ∈ l ↔ x ∈ m) → l = m
 | [], [], _, _, _ => rfl
 | [], y :: m, _, _, h => by have := (h y).2 (by simp); simp at this
 | x :: l, [], _, _, h => by have := (h x).1 (by simp); simp at this
 | x :: l, y :: m, h1, h2, h => by
  rw [List.pairwise_cons] at h1 h2
  have hxy : x = y := by
   rcases List.mem_cons.1 ((h x).1 (by simp)) with e | e
   ·exact e
   rcases List.mem_cons.1 ((h y).2 (by simp)) with e' | e'
   ·exact e'.symm
   ·exact absurd (ht _ _ _ (h1.1 y e') (h2.1 x e)) (hi x)
  subst hxy
  congr 1
  refine tO hi ht h1.2 h2.2 fun z => ?_
  have := h z
  simp only [List.mem_cons] at this
  constructor
  ·intro hz
   rcases this.1 (.inr hz) with q | q
   ·subst q; exact absurd (h1.1 _ hz) (hi _)
   ·exact q
  ·intro hz
   rcases this.2 (.inr hz) with q | q
   ·subst q; exact absurd (h2.1 _ hz) (hi _)
   ·exact q
theorem IsV.unique {d : aH} {at1 : Int} {T U : aB} (h1 : IsV d at1 T) (h2 : IsV d at1 U) : T = U := by
 obtain ⟨r1, l1⟩ := T
 obtain ⟨r2, l2⟩ := U
 have e1 : r1 = r2 := tO (r := fun a b : aZ => a.ID < b.ID) (fun a h => by omega) (fun a b c h h' => by omega) h1.aqI h2.aqI fun x => (h1.aqJ x).trans (h2.aqJ x).symm
 have e2 : l1 = l2 := tO (r := fun a b : aX => ltL a b = true) (fun a h => by simp [ltL] at h) (fun a b c h h' => vg a b c h h') h1.aqK h2.aqK fun x => (h1.aqL x).trans (h2.aqL x).symm
 rw [e1, e2]
def aqM : aB := aB.mk [] []
/-- what a View is -/
def afm (d : aH) (at1 : Int) (T : aB) : Prop := (¬ ((∃ a ∈ d.ay, a.aj = at1) ∧ Vd d) ∧ T = aqM) ∨ (((∃ a ∈ d.ay, a.aj = at1) ∧ Vd d) ∧ ∃ T0, IsV d at1 T0 ∧ T = if mA T0 = 0 then T0 else aqM)
theorem afm.unique {d : aH} {at1 : Int} {T U : aB} (h1 : afm d at1 T) (h2 : afm d at1 U) : T = U := by
 rcases h1 with ⟨a, b⟩ | ⟨a, T0, b, c⟩ <;> rcases h2 with ⟨a', b'⟩ | ⟨a', U0, b', c'⟩
 ·rw [b, b']
 ·exact absurd a' a
 ·exact absurd a a'
 ·rw [c, c', b.unique b']
def rts (d : aH) : List Int := d.ay.map (·.aj)
theorem LkD.mem {d : aH} {a b : Int} (h : LkD d a b) : b ∈ rts d := by
 obtain ⟨x, hx, y, hy, e1, e2, _⟩ := h
 exact List.mem_map.2 ⟨y, hy, e2⟩
/-! ## the specification's View -/
theorem Vd.key {d : aH} (h : Vd d) {a : ak} {r : Int} (ha : a ∈ d.ay) (he : a.aj = r) : gf d r = (a, true) := by subst he; exact anx h ha
theorem anz {a b : aX} : ltL a b = true ↔ a.A < b.A ∨ a.A = b.A ∧ a.B < b.B := by simp [ltL]
/-! ## the xL View -/
end Go.Proofs.YtpmifmdidfgpdaaGreat

/- Plain: streams of bits and what wk are written as, by both. No condition but bT bF stand in each. -/
namespace Go.Proofs.YtpmifmdidfgpdaaGreat
set_option linter.all false
open Go
def vA : List Int → Nat := List.foldl (fun a b => a * 256 + b.toNat) 0
theorem uP (l : List Int) (b : Int) : vA (l ++ [b]) = vA l * 256 + b.toNat := by simp [vA]
theorem abz {α : Type} : ∀ {l : List α}, l ≠ [] → ∃ i b, l = i ++ [b] := fun {l} h => ⟨l.dropLast, l.getLast h, (List.dropLast_concat_getLast h).symm⟩
theorem adl : ∀ (n : Nat) (l m : List Int), l.length = n → m.length = n → (∀ b ∈ l, 0 ≤ b ∧ b < 256) → (∀ b ∈ m, 0 ≤ b ∧ b < 256) → vA l = vA m → l = m
 | 0, l, m, h1, h2, _, _, _ => by simp at h1 h2; rw [h1, h2]
 | n + 1, l, m, h1, h2, hl, hm, h => by
  obtain ⟨i, b, rfl⟩ := abz (l := l) (by intro e; simp [e] at h1)
  obtain ⟨j, c, rfl⟩ := abz (l := m) (by intro e; simp [e] at h2)
  rw [uP, uP] at h
  have hb := hl b (by simp)
  have hc := hm c (by simp)
  have e1 : b = c := by omega
  have e2 : vA i = vA j := by omega
  subst e1
  rw [adl n i j (by simpa using h1) (by simpa using h2) (fun x hx => hl x (by simp [hx])) (fun x hx => hm x (by simp [hx])) e2]
/-- bytes bF hold the B bits of a number V -/
structure SR (D : List Int) (B V : Nat) : Prop where
 by_ : ∀ b ∈ D, 0 ≤ b ∧ b < 256
 le : B ≤ 8 * D.length
 hi : 8 * D.length ≤ B + 8
 num : vA D = V * 2 ^ (8 * D.length - B)
theorem SR.unique {D E : List Int} {B V : Nat} (h1 : SR D B V) (h2 : SR E B V) (a : 8 * D.length < B + 8) (b : 8 * E.length < B + 8) : D = E := by
 have e : D.length = E.length := by have := h1.le; have := h2.le; omega
 exact adl _ D E rfl e.symm h1.by_ h2.by_ (by rw [h1.num, h2.num, e])
theorem SR.nil : SR [] 0 0 := ⟨by simp, by simp, by simp, by simp [vA]⟩
theorem SR.more {D : List Int} {B V : Nat} (h : SR D B V) (h8 : 8 * D.length = B) : SR (D ++ [0]) B V := by
 refine ⟨?_, by simp; omega, by simp; omega, ?_⟩
 ·intro b hb
  rcases List.mem_append.1 hb with hb | hb
  ·exact h.by_ b hb
  ·simp at hb; omega
 ·rw [uP, h.num]
  have e : 8 * (D ++ [(0:Int)]).length - B = 8 := by simp; omega
  rw [e]
  have e2 : 8 * D.length - B = 0 := by omega
  rw [e2]; simp
theorem SR.last {D : List Int} {b : Int} {B V : Nat} (h : SR (D ++ [b]) B V) (hf : B < 8 * (D.length + 1)) : 0 ≤ b ∧ b < 256 ∧ b.toNat % 2 ^ (8 * (D.length + 1) - B) = 0 := by
 have hb := h.by_ b (by simp)
 refine ⟨hb.1, hb.2, ?_⟩
 have hn := h.num
 have hh := h.hi
 simp only [List.length_append, List.length_cons, List.length_nil, Nat.zero_add] at hn hh
 rw [uP] at hn
 generalize hk : 8 * (D.length + 1) - B = k at hn ⊢
 have h1 : (256 : Nat) = 2 ^ k * 2 ^ (8 - k) := by rw [← Nat.pow_add, show k + (8 - k) = 8 by omega]
 have h2 : (vA D * 256 + b.toNat) % 2 ^ k = 0 := by rw [hn]; exact Nat.mul_mod_left _ _
 rw [h1, ← Nat.mul_assoc, Nat.mul_right_comm, Nat.mul_add_mod'] at h2
 exact h2
theorem SR.push {D : List Int} {b : Int} {B V k x : Nat} (h : SR (D ++ [b]) B V) (hk : 1 ≤ k) (hf : B + k ≤ 8 * (D.length + 1)) (hx : x < 2 ^ k) :
  SR (D ++ [b + (x * 2 ^ (8 * (D.length + 1) - B - k) : Nat)]) (B + k) (V * 2 ^ k + x) ∧ b.toNat + x * 2 ^ (8 * (D.length + 1) - B - k) < 256 ∧ x * 2 ^ (8 * (D.length + 1) - B - k) < 2 ^ (8 * (D.length + 1) - B) := by
 obtain ⟨b0, b1, b2⟩ := h.last (by omega)
 have hh := h.hi
 simp only [List.length_append, List.length_cons, List.length_nil, Nat.zero_add] at hh
 generalize hf0 : 8 * (D.length + 1) - B = f at b2 ⊢
 have hx2 : x * 2 ^ (f - k) < 2 ^ f := by
  have : 2 ^ f = 2 ^ k * 2 ^ (f - k) := by rw [← Nat.pow_add, show k + (f - k) = f by omega]
  rw [this]; exact Nat.mul_lt_mul_of_pos_right hx (Nat.two_pow_pos _)
 have hlt : b.toNat + x * 2 ^ (f - k) < 256 := by
  have e1 : (256 : Nat) = 2 ^ f * 2 ^ (8 - f) := by rw [← Nat.pow_add, show f + (8 - f) = 8 by omega]
  obtain ⟨q, hq⟩ := Nat.dvd_of_mod_eq_zero b2
  have hb8 : b.toNat < 2 ^ f * 2 ^ (8 - f) := by rw [← e1]; omega
  rw [hq] at hb8 ⊢
  have hq8 : q < 2 ^ (8 - f) := Nat.lt_of_mul_lt_mul_left hb8
  rw [e1]
  have s1 : 2 ^ f * (q + 1) ≤ 2 ^ f * 2 ^ (8 - f) := Nat.mul_le_mul_left _ hq8
  rw [Nat.mul_add, Nat.mul_one] at s1
  omega
 refine ⟨⟨?_, by simp; omega, by simp; omega, ?_⟩, hlt, hx2⟩
 ·intro y hy
  rcases List.mem_append.1 hy with hy | hy
  ·exact h.by_ y (by simp [hy])
  ·simp only [List.mem_singleton] at hy; omega
 ·have hn := h.num
  simp only [List.length_append, List.length_cons, List.length_nil, Nat.zero_add] at hn ⊢
  rw [uP] at hn ⊢
  rw [hf0] at hn
  rw [show 8 * (D.length + 1) - (B + k) = f - k by omega]
  have e : (b + (x * 2 ^ (f - k) : Nat)).toNat = b.toNat + x * 2 ^ (f - k) := by omega
  rw [e, Nat.add_mul, Nat.mul_assoc, ← Nat.pow_add, show k + (f - k) = f by omega]
  omega
theorem agq {b y f : Nat} (hb : b % 2 ^ f = 0) (hy : y < 2 ^ f) : b ||| y = b + y := by
 obtain ⟨q, rfl⟩ := Nat.dvd_of_mod_eq_zero hb
 rw [Nat.mul_comm, ← Nat.shiftLeft_eq, Nat.shiftLeft_add_eq_or_of_lt hy]
theorem agr (n : Int) : IntKind.wrap .u8 n = n % 256 := rfl
theorem anA (n : Int) : IntKind.wrap .u64 n = n % 18446744073709551616 := rfl
theorem wU8 {n : Nat} (h : n < 256) : IntKind.wrap .u8 (n : Int) = n := by rw [agr]; omega
theorem pz {n : Nat} (h : n < 18446744073709551616) : IntKind.wrap .u64 (n : Int) = n := by rw [anA]; omega
theorem or8 {a b : Nat} (ha : a < 256) (hb : b < 256) : cW .or .u8 a b = ((a ||| b : Nat) : Int) := by
 show IntKind.wrap .u8 ((BitVec.ofNat 8 a ||| BitVec.ofNat 8 b).toNat : Int) = _
 rw [BitVec.toNat_or, BitVec.toNat_ofNat, BitVec.toNat_ofNat, Nat.mod_eq_of_lt (show a < 2 ^ 8 from ha), Nat.mod_eq_of_lt (show b < 2 ^ 8 from hb)]
 exact wU8 (Nat.or_lt_two_pow (n := 8) ha hb)
theorem and8 {a b : Nat} (ha : a < 256) (hb : b < 256) : cW .and .u8 a b = ((a &&& b : Nat) : Int) := by
 show IntKind.wrap .u8 ((BitVec.ofNat 8 a &&& BitVec.ofNat 8 b).toNat : Int) = _
 rw [BitVec.toNat_and, BitVec.toNat_ofNat, BitVec.toNat_ofNat, Nat.mod_eq_of_lt (show a < 2 ^ 8 from ha), Nat.mod_eq_of_lt (show b < 2 ^ 8 from hb)]
 exact wU8 (Nat.lt_of_le_of_lt Nat.and_le_left ha)
theorem akB {a b : Nat} (ha : a < 2 ^ 64) (hb : b < 2 ^ 64) : cW .and .u64 a b = ((a &&& b : Nat) : Int) := by
 show IntKind.wrap .u64 ((BitVec.ofNat 64 a &&& BitVec.ofNat 64 b).toNat : Int) = _
 rw [BitVec.toNat_and, BitVec.toNat_ofNat, BitVec.toNat_ofNat, Nat.mod_eq_of_lt ha, Nat.mod_eq_of_lt hb]
 exact pz (Nat.lt_of_le_of_lt Nat.and_le_left ha)
theorem aqN {a : Nat} (ha : a < 256) : cW .and .u8 a 1 = ((a % 2 : Nat) : Int) := by
 have := and8 ha (show 1 < 256 by decide)
 rw [Nat.and_one_is_mod] at this; exact this
theorem abA {a : Nat} (ha : a < 2 ^ 64) : cW .and .u64 a 1 = ((a % 2 : Nat) : Int) := by
 have := akB ha (show 1 < 2 ^ 64 by decide)
 rw [Nat.and_one_is_mod] at this; exact this
theorem aqO {a k : Nat} (ha : a < 2 ^ 64) (hk : k < 64) : cW .and .u64 a ((2 ^ k - 1 : Nat) : Int) = ((a % 2 ^ k : Nat) : Int) := by
 have hb : 2 ^ k - 1 < 2 ^ 64 := by have := Nat.pow_lt_pow_right (show 1 < 2 by decide) hk; omega
 rw [akB ha hb, Nat.and_two_pow_sub_one_eq_mod]
theorem yY (a k : Nat) : Int.fdiv (a : Int) (2 ^ k) = ((a / 2 ^ k : Nat) : Int) := by
 have : ((2 : Int) ^ k) = ((2 ^ k : Nat) : Int) := by norm_cast
 rw [this, Int.fdiv_eq_ediv_of_nonneg _ (Int.natCast_nonneg _)]; rfl
def qj : List UInt8 → List UInt8 → Int
 | [], [] => 0
 | [], _ :: _ => -1
 | _ :: _, [] => 1
 | a :: x, b :: y => if a = b then qj x y else if a < b then -1 else 1
theorem aqP (l : List UInt8) (i : Nat) : (⟨l.toArray⟩ : ByteArray)[i]! = l[i]! := by
 by_cases h : i < l.length
 ·rw [getElem!_pos l i h, getElem!_pos (⟨l.toArray⟩ : ByteArray) i (by show i < l.toArray.size; simpa using h)]; rfl
 ·rw [getElem!_neg l i h, getElem!_neg (⟨l.toArray⟩ : ByteArray) i (by show ¬ i < l.toArray.size; simpa using h)]
theorem ajd : ∀ (x y : List UInt8), Go.Extern.BytealgCompare.cmp ⟨x.toArray⟩ ⟨y.toArray⟩ = qj x y := by
 intro x y
 unfold Go.Extern.BytealgCompare.cmp
 simp only [aqP]
 show (match (List.range (min x.length y.length)).find? fun i => x[i]! != y[i]! with
  | some i => if x[i]! < y[i]! then -1 else 1
  | none => if x.length < y.length then -1 else if x.length > y.length then 1 else 0) = qj x y
 induction x generalizing y with
 | nil => cases y <;> simp [qj]
 | cons a x ih =>
  cases y with
  | nil => simp [qj]
  | cons b y =>
   simp only [qj, List.length_cons]
   rw [show min (x.length + 1) (y.length + 1) = min x.length y.length + 1 by omega, List.range_succ_eq_map, List.find?_cons]
   by_cases h : a = b
   ·subst h
    rw [if_pos rfl, ← ih]
    simp only [List.getElem!_cons_zero, bne_self_eq_false, List.find?_map, Function.comp_def, Nat.succ_eq_add_one, List.getElem!_cons_succ]
    cases (List.range (min x.length y.length)).find? (fun i => x[i]! != y[i]!) <;> simp
   ·rw [if_neg h]
    have e : ((a :: x)[0]! != (b :: y)[0]!) = true := by simpa using h
    simp only [e]
    simp
theorem adm : ∀ (x y : List UInt8), 0 < qj x y ↔ (Go.Op.bytesLess x y = false ∧ x ≠ y)
 | [], [] => by simp [Go.Op.bytesLess, qj]
 | [], _ :: _ => by simp [Go.Op.bytesLess, qj]
 | _ :: _, [] => by simp [Go.Op.bytesLess, qj]
 | a :: x, b :: y => by
  simp only [Go.Op.bytesLess, qj]
  by_cases h : a = b
  ·subst h
   rw [if_pos rfl, adm x y]
   have : ¬ a < a := UInt8.lt_irrefl a
   simp [this]
  ·rw [if_neg h]
   by_cases h2 : a < b
   ·simp [h2]
   ·simp [h2, h]
theorem agt (x y : List UInt8) : (!(Go.Op.bytesLess x y || x == y)) = decide (0 < qj x y) := by
 rw [Bool.eq_iff_iff, decide_eq_true_iff, adm]
 cases Go.Op.bytesLess x y <;> simp
/-- a stream bF holds the B bits of V -/
structure Str (s : bf) (B V : Nat) : Prop where
 b : s.Bits = B
 r : SR s.Data B V
 t : 8 * s.Data.length < B + 8
theorem Str.nil : Str (bf.mk [] 0) 0 0 := ⟨rfl, SR.nil, by simp⟩
theorem Str.unique {s u : bf} {B V : Nat} (h1 : Str s B V) (h2 : Str u B V) : s = u := by
 have := h1.r.unique h2.r h1.t h2.t
 obtain ⟨d, n⟩ := s
 obtain ⟨e, m⟩ := u
 have a := h1.b; have b := h2.b
 simp only at this a b
 subst this; rw [a, b]
theorem Str.split {s : bf} {B V : Nat} (h : Str s B V) (hf : 8 * s.Data.length ≠ B) : ∃ i b, s.Data = i ++ [b] ∧ 8 * (i.length + 1) = 8 * s.Data.length := by
 have := h.r.le
 obtain ⟨i, b, e⟩ := abz (l := s.Data) (by intro e; simp [e] at *; omega)
 exact ⟨i, b, e, by rw [e]; simp⟩
theorem w5 {α : Type} (i : List α) (b : α) {n : Int} (h : n = i.length) : elO (i ++ [b]) n = some b := by subst h; exact iP i b []
theorem ab3 {α : Type} (i : List α) (b c : α) {n : Int} (h : n = i.length) : iZ (i ++ [b]) n c = some (i ++ [c]) := by
 subst h
 unfold iZ
 rw [if_pos ⟨by omega, by simp; omega⟩]
 simp
theorem adM {n : Nat} (h : n ≤ 100000) : nX n = some (((n + 7) / 8 : Nat) : Int) := by
 unfold nX
 have e : Int.tdiv ((n : Int) + 7) 8 = (((n + 7) / 8 : Nat) : Int) := by rw [Int.tdiv_eq_ediv_of_nonneg (by omega)]; omega
 rw [cC (n := (n : Int) + 7) (by omega) (by omega), e, cC (by omega) (by omega)]
theorem zq {s : bf} {B V : Nat} (h : Str s B V) (hB : B ≤ 8192) : lJ s = some true := by
 have hle := h.r.le; have ht := h.t; have hb := h.b
 refine Ok.eq ?_
 unfold lJ
 refine Ok.jn (fun v => v = false) (fun v hv => ?_) (fun J hJ => ?_)
 ·subst hv
  rw [cond_false, hb, cC (n := 8 * (s.Data.length : Int)) (by omega) (by omega), cC (n := 8 * (s.Data.length : Int) - B) (by omega) (by omega)]
  refine Ok.cs (fun _ => Ok.s rfl) fun hc => ?_
  have hc : 8 * (s.Data.length : Int) - B ≠ 0 := by simpa using hc
  obtain ⟨i, b, hD, hi⟩ := h.split (by omega)
  have hl := h.r
  rw [hD] at hl
  obtain ⟨b0, b1, b2⟩ := hl.last (by omega)
  rw [cC (n := (s.Data.length : Int) - 1) (by omega) (by omega), hD, w5 i b (by simp), aO]
  have e : 8 * ((i ++ [b]).length : Int) - B = ((8 * (i.length + 1) - B : Nat) : Int) := by simp; omega
  rw [e]
  generalize hf : 8 * (i.length + 1) - B = f at b2 ⊢
  rw [cC (n := (8 : Int) - (f : Int)) (by omega) (by omega)]
  refine Ok.chk (by simp; omega) (Ok.s ?_)
  obtain ⟨q, hq⟩ := Nat.dvd_of_mod_eq_zero b2
  have e2 : min ((8 : Int) - f).toNat 8 = 8 - f := by omega
  rw [e2, show b = ((b.toNat : Nat) : Int) by omega, hq]
  have e3 : (((2 ^ f * q : Nat) : Int) * 2 ^ (8 - f)) = ((256 * q : Nat) : Int) := by
   have e1 : (256 : Nat) = 2 ^ f * 2 ^ (8 - f) := by rw [← Nat.pow_add, show f + (8 - f) = 8 by omega]
   rw [e1, Nat.mul_assoc, Nat.mul_comm (2 ^ (8 - f)) q, ← Nat.mul_assoc]
   push_cast; rfl
  rw [e3, agr]
  simp
 ·rw [hb, adM (by omega)]
  refine Ok.cs (fun hc => by simp at hc; omega) fun _ => ?_
  refine Ok.cs (fun hc => by simp at hc; omega) fun _ => ?_
  rw [aO]
  exact hJ _ (by simp; omega)
theorem adN {s : bf} {B V v n : Nat} (h : Str s B V) (hn : n ≤ 64) (hv : v < 2 ^ n) (hB : B + n ≤ 8192) : Ok (nY s v n) (fun u => Str u (B + n) (V * 2 ^ n + v)) := by
 unfold nY
 have afn : v < 2 ^ 64 := Nat.lt_of_lt_of_le hv (Nat.pow_le_pow_right (by decide) hn)
 refine Ok.whl (fun sg : Int × List Int × Int => ∃ (r k : Nat) (D : List Int), sg = ((r : Int), D, ((B + k : Nat) : Int)) ∧ r + k = n ∧ SR D (B + k) (V * 2 ^ k + v / 2 ^ r) ∧ 8 * D.length < B + k + 8) (fun sg => sg.1.toNat) ⟨n, 0, s.Data, by rw [h.b]; rfl, by simp, by
   rw [Nat.div_eq_of_lt hv]; simpa using h.r, by simpa using h.t⟩ (by simp only; omega) ?_
 rintro _ Z ⟨r, k, D, rfl, hrk, hr, ht⟩ hZ
 have hle := hr.le
 simp only
 refine Ok.cs (fun hc => ?_) fun hc => ?_
 ·have hr0 : 0 < r := by simpa using hc
  rw [cC (n := 8 * (D.length : Int)) (by omega) (by omega), cC (n := 8 * (D.length : Int) - ((B + k : Nat) : Int)) (by omega) (by omega)]
  refine Ok.jn (fun sg : Int × List Int => ∃ (i : List Int) (b : Int) (f : Nat), sg = ((f : Int), i ++ [b]) ∧ SR (i ++ [b]) (B + k) (V * 2 ^ k + v / 2 ^ r) ∧ 8 * (i.length + 1) - (B + k) = f ∧ 1 ≤ f ∧ f ≤ 8) ?_ ?_
  ·rintro _ ⟨i, b, f, rfl, hs, hf, hf1, hf8⟩
   simp only
   obtain ⟨m, hm⟩ : ∃ m : Nat, (if (f : Int) < r then (f : Int) else r) = m ∧ 1 ≤ m ∧ m ≤ f ∧ m ≤ r := by
    by_cases h : (f : Int) < r
    ·exact ⟨f, by rw [if_pos h], by omega, by omega, by omega⟩
    ·exact ⟨r, by rw [if_neg h], by omega, by omega, by omega⟩
   obtain ⟨hm, hm1, hmf, hmr⟩ := hm
   rw [hm]
   have e1 : w64 ((r : Int) - m) = ((r - m : Nat) : Int) := by rw [cC (by omega) (by omega)]; omega
   have e2 : w64 ((f : Int) - m) = ((f - m : Nat) : Int) := by rw [cC (by omega) (by omega)]; omega
   have e3 : w64 (((i ++ [b]).length : Int) - 1) = i.length := by
    have := hs.le; have := hs.hi
    simp at *
    rw [cC (by omega) (by omega)]
   have e4 : w64 (((B + k : Nat) : Int) + m) = ((B + (k + m) : Nat) : Int) := by rw [cC (by omega) (by omega)]; omega
   rw [e1, e2, e3, e4]
   refine Ok.chk (by simp) (Ok.chk (by simp) ?_)
   rw [w5 i b rfl, aO]
   refine Ok.chk (by simp) ?_
   have hsl := hs.last (by omega)
   have e5 : Int.fdiv (v : Int) (2 ^ min ((r - m : Nat) : Int).toNat 64) = ((v / 2 ^ (r - m) : Nat) : Int) := by
    rw [show min ((r - m : Nat) : Int).toNat 64 = r - m by omega, yY]
   have e6 : IntKind.wrap .u64 (IntKind.wrap .u64 ((1 : Int) * 2 ^ min (m : Int).toNat 64) - 1) = ((2 ^ m - 1 : Nat) : Int) := by
    rw [show min (m : Int).toNat 64 = m by omega]
    have hp : 2 ^ m ≤ 2 ^ 8 := Nat.pow_le_pow_right (by decide) (by omega)
    have hp0 : 0 < 2 ^ m := Nat.two_pow_pos m
    have : (1 : Int) * 2 ^ m = ((2 ^ m : Nat) : Int) := by push_cast; omega
    rw [this, pz (by omega), show ((2 ^ m : Nat) : Int) - 1 = ((2 ^ m - 1 : Nat) : Int) by omega, pz (by omega)]
   rw [e5, e6, aqO (Nat.lt_of_le_of_lt (Nat.div_le_self _ _) afn) (by omega)]
   obtain ⟨hp1, hp2, hp3⟩ := hs.push (k := m) (x := v / 2 ^ (r - m) % 2 ^ m) hm1 (by omega) (Nat.mod_lt _ (Nat.two_pow_pos _))
   rw [hf] at hp1 hp2 hp3
   generalize hx : v / 2 ^ (r - m) % 2 ^ m = x at hp1 hp2 hp3 ⊢
   have e7 : (x : Int) * 2 ^ min ((f - m : Nat) : Int).toNat 64 = ((x * 2 ^ (f - m) : Nat) : Int) := by
    rw [show min ((f - m : Nat) : Int).toNat 64 = f - m by omega]; push_cast; rfl
   have hy : x * 2 ^ (f - m) < 256 := by omega
   rw [e7, pz (by omega), wU8 (by omega)]
   rw [hf] at hsl
   have e8 : cW .or .u8 b ((x * 2 ^ (f - m) : Nat) : Int) = b + ((x * 2 ^ (f - m) : Nat) : Int) := by
    obtain ⟨hb0, hb1, hb2⟩ := hsl
    have := or8 (a := b.toNat) (b := x * 2 ^ (f - m)) (by omega) hy
    rw [show ((b.toNat : Nat) : Int) = b by omega] at this
    rw [this, agq hb2 hp3]; omega
   rw [e8, ab3 i b _ rfl, aO]
   refine hZ _ ⟨r - m, k + m, _, rfl, by omega, ?_, ?_⟩ (by simp only; omega)
   ·rw [← Nat.add_assoc]
    have e9 : (V * 2 ^ k + v / 2 ^ r) * 2 ^ m + x = V * 2 ^ (k + m) + v / 2 ^ (r - m) := by
     have d1 : v / 2 ^ r = v / 2 ^ (r - m) / 2 ^ m := by rw [Nat.div_div_eq_div_mul, ← Nat.pow_add, show r - m + m = r by omega]
     rw [Nat.add_mul, Nat.mul_assoc, ← Nat.pow_add, d1, ← hx]
     have := Nat.div_add_mod (v / 2 ^ (r - m)) (2 ^ m)
     rw [Nat.mul_comm (2 ^ m)] at this
     omega
    rw [← e9]; exact hp1
   ·simp; omega
  ·intro J hJ
   refine Ok.cs (fun hc => ?_) fun hc => ?_
   ·have hc : 8 * (D.length : Int) - ((B + k : Nat) : Int) = 0 := by simpa using hc
    rw [dZ (by simp; omega), aO]
    exact hJ _ ⟨D, 0, 8, rfl, hr.more (by omega), by omega, by omega, by omega⟩
   ·have hc : 8 * (D.length : Int) - ((B + k : Nat) : Int) ≠ 0 := by simpa using hc
    have hst : Str (bf.mk D ((B + k : Nat) : Int)) (B + k) (V * 2 ^ k + v / 2 ^ r) := ⟨rfl, hr, ht⟩
    obtain ⟨i, b, hD, hi⟩ := hst.split (by simp only; omega)
    simp only at hD hi
    refine hJ _ ⟨i, b, 8 * D.length - (B + k), ?_, by rw [← hD]; exact hr, by omega, by omega, by omega⟩
    rw [← hD]; simp; omega
 ·have hr0 : r = 0 := by simpa using hc
  subst hr0
  obtain rfl : k = n := by omega
  refine Ok.s ⟨rfl, ?_, by simpa using ht⟩
  simpa using hr
theorem adn {s : bf} {B V v n : Nat} (h : Str s B V) (hn : n ≤ 64) (hv : v < 2 ^ n) (hB : B + n ≤ 8192) : Ok (mY s v n) (fun u => Str u.1 (B + n) (V * 2 ^ n + v) ∧ u.2 = 0) := by
 unfold mY
 have hle := h.r.le; have ht := h.t; have hb := h.b
 rw [zq h (by omega), aO]
 simp only [Bool.not_true, cond_false]
 refine Ok.jn (fun v => v = false) (fun v1 hv1 => ?_) fun J hJ => ?_
 ·subst hv1
  rw [cond_false, hb, cC (by omega) (by omega)]
  refine Ok.cs (fun hc => by simp at hc; omega) fun _ => ?_
  unfold pW
  rw [dZ (by simp; omega), aO, aO]
  refine Ok.bnd (adN (B := B) (V := V) (s := bf.mk ([] ++ s.Data) s.Bits) ⟨hb, by simpa using h.r, by simpa using ht⟩ hn hv hB) fun u hu => Ok.s ⟨hu, rfl⟩
 ·refine Ok.cs (fun hc => by simp at hc; omega) fun _ => ?_
  refine Ok.cs (fun hc => by simp at hc; omega) fun _ => ?_
  refine Ok.cs (fun hc => ?_) fun _ => hJ _ rfl
  have hn2 : n < 64 := by simp at hc; omega
  refine Ok.chk (by simp) (hJ _ ?_)
  rw [show min ((n : Nat) : Int).toNat 64 = n by omega, yY, Nat.div_eq_of_lt hv]; simp
theorem ado {i : List Int} {b : Int} {k : Nat} (h0 : 0 ≤ b) (h1 : b < 256) (hk : 8 * i.length ≤ k) (hk2 : k < 8 * (i.length + 1)) (hl : k ≤ 100000) : kL (i ++ [b]) (k : Int) = some ((b.toNat / 2 ^ (7 - k % 8) % 2 : Nat) : Int) := by
 unfold kL
 have e1 : Int.tdiv (k : Int) 8 = i.length := by rw [Int.tdiv_eq_ediv_of_nonneg (by omega)]; omega
 have e2 : Int.tmod (k : Int) 8 = ((k % 8 : Nat) : Int) := by rw [Int.tmod_eq_emod_of_nonneg (by omega)]; omega
 have e3 : (7 : Int) - ((k % 8 : Nat) : Int) = ((7 - k % 8 : Nat) : Int) := by omega
 rw [e1, e2, e3, cC (by omega) (by omega), w5 i b rfl, aO, cC (by omega) (by omega), pz (by omega)]
 rw [mb (by simp)]
 have e4 : min ((7 - k % 8 : Nat) : Int).toNat 8 = 7 - k % 8 := by omega
 have hlt : b.toNat / 2 ^ (7 - k % 8) < 256 := Nat.lt_of_le_of_lt (Nat.div_le_self _ _) (by omega)
 have e5 : Int.fdiv b (2 ^ (7 - k % 8)) = ((b.toNat / 2 ^ (7 - k % 8) : Nat) : Int) := by
  rw [← yY, show ((b.toNat : Nat) : Int) = b by omega]
 rw [e4, e5, pz (by omega), abA (by omega)]
theorem sE {s : bf} {B V : Nat} (h : Str s B V) (hB : B ≤ 8192) : j7 s = some true := by
 have hle := h.r.le; have ht := h.t; have hb := h.b
 refine Ok.eq ?_
 unfold j7
 rw [hb]
 have e1 : Int.tdiv (w64 ((B : Int) + 7)) 8 = ((s.Data.length : Nat) : Int) := by rw [cC (by omega) (by omega), Int.tdiv_eq_ediv_of_nonneg (by omega)]; omega
 rw [e1, cC (n := (s.Data.length : Int)) (by omega) (by omega), cC (n := 8 * (s.Data.length : Int)) (by omega) (by omega)]
 refine Ok.cs (fun hc => by simp at hc; omega) fun _ => ?_
 refine Ok.whl (fun i : Int => (B : Int) ≤ i ∧ i ≤ 8 * s.Data.length) (fun i => (8 * (s.Data.length : Int) - i).toNat) ⟨by omega, by omega⟩ (by omega) ?_
 rintro i Z ⟨h1, h2⟩ hZ
 refine Ok.cs (fun hc => ?_) fun _ => Ok.s rfl
 have hc : i < 8 * (s.Data.length : Int) := by simpa using hc
 obtain ⟨p, b, hD, hi⟩ := h.split (by omega)
 have hl := h.r
 rw [hD] at hl
 obtain ⟨b0, b1, b2⟩ := hl.last (by omega)
 obtain ⟨k, rfl⟩ : ∃ k : Nat, i = k := ⟨i.toNat, by omega⟩
 rw [hD, ado b0 b1 (by omega) (by omega) (by omega), aO]
 have hbit : b.toNat / 2 ^ (7 - k % 8) % 2 = 0 := by
  obtain ⟨q, hq⟩ := Nat.dvd_of_mod_eq_zero b2
  generalize hf : 8 * (p.length + 1) - B = f at hq
  have : 2 ^ f = 2 ^ (7 - k % 8) * (2 * 2 ^ (f - (7 - k % 8) - 1)) := by
   rw [← Nat.pow_succ', ← Nat.pow_add]; congr 1; omega
  rw [hq, this, Nat.mul_assoc, Nat.mul_div_cancel_left _ (Nat.two_pow_pos _), Nat.mul_assoc]
  exact Nat.mul_mod_right _ _
 rw [hbit]
 refine Ok.cs (fun hc => by simp at hc) fun _ => ?_
 rw [cC (by omega) (by omega)]
 exact hZ _ ⟨by omega, by omega⟩ (by omega)
theorem ab4 {s : bf} {B V b : Nat} (h : Str s B V) (hb1 : b < 2) (hB : B + 1 ≤ 8192) : Ok (oo s b) (fun u => Str u (B + 1) (V * 2 + b)) := by
 have hle := h.r.le; have ht := h.t; have hb := h.b
 unfold oo
 rw [hb]
 have e1 : Int.tdiv (B : Int) 8 = ((B / 8 : Nat) : Int) := by rw [Int.tdiv_eq_ediv_of_nonneg (by omega)]; omega
 have e2 : Int.tmod (B : Int) 8 = ((B % 8 : Nat) : Int) := by rw [Int.tmod_eq_emod_of_nonneg (by omega)]; omega
 have e3 : (7 : Int) - ((B % 8 : Nat) : Int) = ((7 - B % 8 : Nat) : Int) := by omega
 rw [e1, e2, e3, cC (by omega) (by omega), cC (by omega) (by omega), cC (by omega) (by omega), pz (by omega)]
 refine Ok.bnd (P := fun l => l = s.Data) ⟨_, dZ (by simp; omega), by simp⟩ ?_
 rintro _ rfl
 refine Ok.jn (fun l => ∃ (i : List Int) (c : Int), l = i ++ [c] ∧ SR (i ++ [c]) B V ∧ i.length = B / 8) ?_ ?_
 ·rintro _ ⟨i, c, rfl, hs, hi⟩
  refine Ok.jn (fun l => SR l (B + 1) (V * 2 + b) ∧ 8 * l.length < B + 1 + 8) (fun l hl => Ok.s ⟨rfl, hl.1, hl.2⟩) fun J hJ => ?_
  obtain ⟨hp1, hp2, hp3⟩ := hs.push (k := 1) (x := b) (by omega) (by omega) (by omega)
  refine Ok.cs (fun hc => ?_) fun hc => ?_
  ·have hc : b = 1 := by simp at hc; omega
   subst hc
   rw [w5 i c (by omega), aO, mb (by simp)]
   obtain ⟨c0, c1, c2⟩ := hs.last (by omega)
   have e5 : min ((7 - B % 8 : Nat) : Int).toNat 8 = 8 * (i.length + 1) - B - 1 := by omega
   have e6 : (1 : Int) * 2 ^ (8 * (i.length + 1) - B - 1) = ((1 * 2 ^ (8 * (i.length + 1) - B - 1) : Nat) : Int) := by push_cast; rfl
   rw [e5, e6, wU8 (by omega)]
   have e8 : cW .or .u8 c ((1 * 2 ^ (8 * (i.length + 1) - B - 1) : Nat) : Int) = c + ((1 * 2 ^ (8 * (i.length + 1) - B - 1) : Nat) : Int) := by
    have := or8 (a := c.toNat) (b := 1 * 2 ^ (8 * (i.length + 1) - B - 1)) (by omega) (by omega)
    rw [show ((c.toNat : Nat) : Int) = c by omega] at this
    rw [this, agq c2 hp3]; omega
   rw [e8, ab3 i c _ (by omega), aO]
   exact hJ _ ⟨by simpa using hp1, by simp; omega⟩
  ·have hc : b = 0 := by simp at hc; omega
   subst hc
   refine hJ _ ⟨by simpa using hp1, by simp; omega⟩
 ·intro J hJ
  refine Ok.cs (fun hc => ?_) fun hc => ?_
  ·have hc : B % 8 = 0 := by simp at hc; omega
   rw [dZ (by simp; omega), aO]
   exact hJ _ ⟨s.Data, 0, rfl, h.r.more (by omega), by omega⟩
  ·have hc : B % 8 ≠ 0 := by simp at hc; omega
   obtain ⟨i, c, hD, hi⟩ := h.split (by omega)
   exact hJ _ ⟨i, c, hD, hD ▸ h.r, by omega⟩
theorem adp {s : bf} {B V v n : Nat} (h : Str s B V) (hn : n ≤ 64) (hv : v < 2 ^ n) (hB : B + n ≤ 8192) : Ok (mZ s v n) (fun u => Str u.1 (B + n) (V * 2 ^ n + v) ∧ u.2 = 0) := by
 unfold mZ
 have hb := h.b
 have afn : v < 2 ^ 64 := Nat.lt_of_lt_of_le hv (Nat.pow_le_pow_right (by decide) hn)
 rw [sE h (by omega), aO]
 simp only [Bool.not_true, cond_false]
 refine Ok.jn (fun v => v = false) (fun v1 hv1 => ?_) fun J hJ => ?_
 ·subst hv1
  rw [cond_false, hb, cC (n := (B : Int) + n) (by omega) (by omega)]
  refine Ok.cs (fun hc => by simp at hc; omega) fun _ => ?_
  refine Ok.whl (fun sg : Int × List Int × Int => ∃ (r k : Nat), sg.1 = (r : Int) - 1 ∧ r + k = n ∧ Str (bf.mk sg.2.1 sg.2.2) (B + k) (V * 2 ^ k + v / 2 ^ r)) (fun sg => (sg.1 + 1).toNat) ⟨n, 0, by simp only; rw [cC (by omega) (by omega)], by simp, by
   rw [Nat.div_eq_of_lt hv]; simp only [Nat.add_zero, Nat.pow_zero, Nat.mul_one]; rw [← hb]; exact h⟩ (by simp only; rw [cC (by omega) (by omega)]; omega) ?_
  rintro ⟨i, D, N⟩ Z ⟨r, k, hi, hrk, hs⟩ hZ
  simp only at hi hs ⊢
  subst hi
  refine Ok.cs (fun hc => ?_) fun hc => ?_
  ·have hr : 1 ≤ r := by simp at hc; omega
   have e : ((r : Int) - 1) = ((r - 1 : Nat) : Int) := by omega
   rw [e, pz (by omega)]
   refine Ok.chk (by simp) ?_
   rw [show min ((r - 1 : Nat) : Int).toNat 64 = r - 1 by omega, yY, abA (Nat.lt_of_le_of_lt (Nat.div_le_self _ _) afn)]
   refine Ok.bnd (ab4 hs (Nat.mod_lt _ (by omega)) (by omega)) fun u hu => ?_
   rw [cC (by omega) (by omega)]
   refine hZ _ ⟨r - 1, k + 1, rfl, by omega, ?_⟩ (by simp only; omega)
   have e9 : (V * 2 ^ k + v / 2 ^ r) * 2 + v / 2 ^ (r - 1) % 2 = V * 2 ^ (k + 1) + v / 2 ^ (r - 1) := by
    have d1 : v / 2 ^ r = v / 2 ^ (r - 1) / 2 := by
     rw [Nat.div_div_eq_div_mul, ← Nat.pow_succ]; congr 2; omega
    rw [Nat.pow_succ, d1, Nat.add_mul, Nat.mul_assoc]
    omega
   rw [← Nat.add_assoc, ← e9]; exact hu
  ·have hr : r = 0 := by simp at hc; omega
   subst hr
   obtain rfl : k = n := by omega
   refine Ok.s ⟨by simpa using hs, rfl⟩
 ·refine Ok.cs (fun hc => by simp at hc; omega) fun _ => ?_
  refine Ok.cs (fun hc => by simp at hc; omega) fun _ => ?_
  refine Ok.cs (fun hc => ?_) fun _ => hJ _ rfl
  have hn2 : n < 64 := by simp at hc; omega
  rw [pz (by omega)]
  refine Ok.chk (by simp) (hJ _ ?_)
  rw [show min ((n : Nat) : Int).toNat 64 = n by omega, yY, Nat.div_eq_of_lt hv]; simp
theorem aaU {σ β : Type} {B B' : Int → (σ → Option β) → σ → Option β} {K K' : Int → σ → Option β} : ∀ (n : Nat) (i : Int) (s : σ), (∀ (j : Int) s Z Z', i ≤ j → j < i + n → (∀ s, Z s = Z' s) → B j Z s = B' j Z' s) → (∀ s, K (i + n) s = K' (i + n) s) → eU n i B K s = eU n i B' K' s
 | 0, i, s, _, hk => by simpa [eU] using hk s
 | n + 1, i, s, hb, hk => by
  simp only [eU]
  refine hb i s _ _ (by omega) (by omega) fun s' => ?_
  refine aaU n (i + 1) s' (fun j s Z Z' h1 h2 hz => hb j s Z Z' (by omega) (by omega) hz) fun s => ?_
  have := hk s
  rw [show i + 1 + (n : Int) = i + ((n + 1 : Nat) : Int) by omega]; exact this
theorem agu {s : bf} {i : Nat} (hb : ∀ b ∈ s.Data, 0 ≤ b ∧ b < 256) (hi : i < 8 * s.Data.length) (hl : i ≤ 100000) : ∃ x : Int, pH s (i : Int) = some x ∧ kL s.Data (i : Int) = some x := by
 have e1 : Int.tdiv (i : Int) 8 = ((i / 8 : Nat) : Int) := by rw [Int.tdiv_eq_ediv_of_nonneg (by omega)]; omega
 have e2 : Int.tmod (i : Int) 8 = ((i % 8 : Nat) : Int) := by rw [Int.tmod_eq_emod_of_nonneg (by omega)]; omega
 have e3 : (7 : Int) - ((i % 8 : Nat) : Int) = ((7 - i % 8 : Nat) : Int) := by omega
 obtain ⟨e, he, hm, _⟩ := (kY (l := s.Data) (i := ((i / 8 : Nat) : Int)) (by omega) (by omega)).get
 have hbe := hb e hm
 have e4 : min ((7 - i % 8 : Nat) : Int).toNat 8 = 7 - i % 8 := by omega
 have hlt : e.toNat / 2 ^ (7 - i % 8) < 256 := Nat.lt_of_le_of_lt (Nat.div_le_self _ _) (by omega)
 have e5 : Int.fdiv e (2 ^ (7 - i % 8)) = ((e.toNat / 2 ^ (7 - i % 8) : Nat) : Int) := by
  rw [← yY, show ((e.toNat : Nat) : Int) = e by omega]
 refine ⟨((e.toNat / 2 ^ (7 - i % 8) % 2 : Nat) : Int), ?_, ?_⟩
 ·unfold pH
  rw [e1, e2, e3, cC (by omega) (by omega), he, aO, cC (by omega) (by omega), mb (by simp), e4, e5, aqN hlt, pz (by omega)]
 ·unfold kL
  rw [e1, e2, e3, cC (by omega) (by omega), he, aO, cC (by omega) (by omega), pz (by omega), mb (by simp), e4, e5, pz (by omega), abA (by omega)]
theorem au4 (x : Int) : ∃ n : Nat, cW .and .u64 x 65535 = n ∧ n < 65536 := by
 refine ⟨(BitVec.ofInt 64 x &&& BitVec.ofInt 64 65535).toNat, ?_, ?_⟩
 ·show IntKind.wrap .u64 _ = _
  exact pz (BitVec.isLt _)
 ·rw [BitVec.toNat_and]
  exact Nat.lt_of_le_of_lt Nat.and_le_right (by decide)
theorem au5 {n : Nat} (h : n < 65536) : ∃ m : Nat, cW .xor .u64 n 4129 = m ∧ m < 65536 := by
 refine ⟨n ^^^ 4129, ?_, Nat.xor_lt_two_pow (n := 16) h (by decide)⟩
 show IntKind.wrap .u64 ((BitVec.ofNat 64 n ^^^ BitVec.ofNat 64 4129).toNat : Int) = _
 rw [BitVec.toNat_xor, BitVec.toNat_ofNat, BitVec.toNat_ofNat, Nat.mod_eq_of_lt (show n < 2 ^ 64 by omega), Nat.mod_eq_of_lt (show 4129 < 2 ^ 64 by decide)]
 exact pz (Nat.lt_trans (Nat.xor_lt_two_pow (n := 16) h (by decide)) (by decide))
theorem afo {s : bf} {B V : Nat} (h : Str s B V) (hB : B ≤ 8192) : ∃ c : Nat, c < 65536 ∧ lK s = some ((c : Int), 0) ∧ iU s = some ((c : Int), 0) := by
 have hle := h.r.le; have ht := h.t; have hb := h.b
 have key : lK s = iU s := by
  unfold lK iU
  rw [zq h hB, sE h hB]
  simp only [aO, Bool.not_true, cond_false]
  congr 1
  refine aaU _ _ _ ?_ fun s => rfl
  intro j r Z Z' h1 h2 hz
  obtain ⟨x, hx1, hx2⟩ := agu (s := s) (i := j.toNat) h.r.by_ (by omega) (by omega)
  rw [show ((j.toNat : Nat) : Int) = j by omega] at hx1 hx2
  simp only [jn, hx1, hx2, aO, hz]
  by_cases hc : Int.fdiv r (2 ^ min (15 : Int).toNat 64) = x <;> simp [hc]
 rw [key]
 have : Ok (iU s) (fun p => ∃ c : Nat, c < 65536 ∧ p = ((c : Int), 0)) := by
  unfold iU
  rw [sE h hB, aO]
  simp only [Bool.not_true, cond_false]
  refine Ok.chk (by simp; omega) ?_
  refine Ok.eU (fun _ (r : Int) => ∃ c : Nat, c < 65536 ∧ r = c) 0 s.Bits ?_ ?_ _ _ _ (by simp) (by omega) (by omega) ⟨65535, by decide, rfl⟩
  ·rintro i r Z h1 h2 ⟨c, hc, rfl⟩ hZ
   refine Ok.jn (fun r => ∃ c : Nat, c < 65536 ∧ r = c) (fun r hr => hZ _ hr) fun J hJ => ?_
   obtain ⟨x, hx1, hx2⟩ := agu (s := s) (i := i.toNat) h.r.by_ (by omega) (by omega)
   rw [show ((i.toNat : Nat) : Int) = i by omega] at hx2
   rw [hx2, aO]
   obtain ⟨n, hn, hn2⟩ := au4 (IntKind.wrap .u64 ((c : Int) * 2 ^ min (1 : Int).toNat 64))
   rw [hn]
   refine Ok.cs (fun _ => ?_) fun _ => hJ _ ⟨n, hn2, rfl⟩
   obtain ⟨m, hm, hm2⟩ := au5 hn2
   rw [hm]
   exact hJ _ ⟨m, hm2, rfl⟩
  ·rintro i r h1 h2 ⟨c, hc, rfl⟩
   exact Ok.s ⟨c, hc, rfl⟩
 obtain ⟨_, hp, c, hc, rfl⟩ := this
 exact ⟨c, hc, hp, hp⟩
/-- one field more, by both -/
theorem aje {s : bf} {B V v n : Nat} (h : Str s B V) (hn : n ≤ 64) (hv : v < 2 ^ n) (hB : B + n ≤ 8192) : ∃ u, bU (bL.mk s) v n = some (bL.mk u) ∧ dh s v n = some u ∧ Str u (B + n) (V * 2 ^ n + v) := by
 have afn : v < 2 ^ 64 := Nat.lt_of_lt_of_le hv (Nat.pow_le_pow_right (by decide) hn)
 obtain ⟨p, hp, hs, _⟩ := adn h hn hv hB
 obtain ⟨q, hq, ht, _⟩ := adp h hn hv hB
 have e := hs.unique ht
 refine ⟨p.1, ?_, ?_, hs⟩
 ·unfold bU
  rw [pz (by omega), hp]; rfl
 ·unfold dh
  rw [pz (by omega), hq, e]; rfl
/-- two loops side by side, through the same states -/
theorem ab5 {α σ β γ : Type} {B1 : Int → α → (σ → Option β) → σ → Option β} {B2 : Int → α → (σ → Option γ) → σ → Option γ} {L : List α} (I : Nat → σ → Prop)
  (hc : ∀ (j : Nat) x s, L[j]? = some x → I j s → ∃ s', I (j + 1) s' ∧ (∀ Z, B1 (j : Int) x Z s = Z s') ∧ ∀ Z, B2 (j : Int) x Z s = Z s') (s : σ) (h : I 0 s) :
  ∃ s', I L.length s' ∧ (∀ K, bM L 0 B1 K s = K s') ∧ ∀ K, bM L 0 B2 K s = K s' := by
 have key : ∀ (l p : List α) (s : σ), L = p ++ l → I p.length s → ∃ s', I L.length s' ∧ (∀ K, bM l p.length B1 K s = K s') ∧ ∀ K, bM l p.length B2 K s = K s' := by
  intro l
  induction l with
  | nil => intro p s hj h; rw [List.append_nil] at hj; subst hj; exact ⟨s, h, fun _ => rfl, fun _ => rfl⟩
  | cons x r ih =>
   intro p s hj h
   obtain ⟨s1, h1, e1, e2⟩ := hc p.length x s (by rw [hj]; simp) h
   obtain ⟨s2, h2, e3, e4⟩ := ih (p ++ [x]) s1 (by simp [hj]) (by simpa using h1)
   simp only [List.length_append, List.length_cons, List.length_nil] at e3 e4
   exact ⟨s2, h2, fun K => by simp only [bM]; rw [e1]; exact e3 K, fun K => by simp only [bM]; rw [e2]; exact e4 K⟩
 exact key L [] s rfl h
/-- fields, one behind the other -/
def yf : Nat → List (Nat × Nat) → Nat
 | a, [] => a
 | a, (v, w) :: r => yf (a * 2 ^ w + v) r
def sy : List (Nat × Nat) → Nat
 | [] => 0
 | (_, w) :: r => w + sy r
theorem uQ : ∀ (a : Nat) (F G : List (Nat × Nat)), yf a (F ++ G) = yf (yf a F) G
 | _, [], _ => rfl
 | a, (v, w) :: r, G => uQ _ r G
theorem sA : ∀ (F G : List (Nat × Nat)), sy (F ++ G) = sy F + sy G
 | [], G => by simp [sy]
 | (v, w) :: r, G => by simp only [List.cons_append, sy, sA r G]; omega
def yZ (l : Int) : Nat := if l = 8 then 0 else if l = 16 then 1 else if l = 32 then 2 else 3
theorem afp {l : Int} (h : qi l = true) : oP l = some (yZ l : Int) := by
 simp only [qi, Bool.or_eq_true, decide_eq_true_eq] at h
 rcases h with rfl | rfl | rfl | rfl <;> decide +kernel
theorem pN {σ β : Type} (F : (σ → Option β) → σ → Option β) (n : Nat) (s : σ) : iter F (n + 1) s = F (iter F n) s := rfl
theorem agv {β : Type} {l : Int} (h : qi l = true) (R : Int → Option β) : whl (fun (Z : Int → Option β) (c : Int) => chk (decide (0 ≤ c)) <| bif decide (IntKind.wrap .i64 ((8 : Int) * 2 ^ min c.toNat 64) < l) then Z (w64 (c + 1)) else R c) 0 = R (yZ l : Int) := by
 simp only [qi, Bool.or_eq_true, decide_eq_true_eq] at h
 show iter _ (1099511627772 + 4) 0 = _
 have e1 : w64 (0 + 1) = 1 := by decide
 have e2 : w64 (1 + 1) = 2 := by decide
 have e3 : w64 (2 + 1) = 3 := by decide
 have p0 : IntKind.wrap .i64 ((8 : Int) * 2 ^ min (0 : Int).toNat 64) = 8 := by decide
 have p1 : IntKind.wrap .i64 ((8 : Int) * 2 ^ min (1 : Int).toNat 64) = 16 := by decide
 have p2 : IntKind.wrap .i64 ((8 : Int) * 2 ^ min (2 : Int).toNat 64) = 32 := by decide
 have p3 : IntKind.wrap .i64 ((8 : Int) * 2 ^ min (3 : Int).toNat 64) = 64 := by decide
 rcases h with rfl | rfl | rfl | rfl
 ·rw [pN, mb (by decide), p0]; rfl
 ·rw [pN, mb (by decide), p0, e1]
  simp only [show decide ((8 : Int) < 16) = true from rfl, cond_true]
  rw [pN, mb (by decide), p1]; rfl
 ·rw [pN, mb (by decide), p0, e1]
  simp only [show decide ((8 : Int) < 32) = true from rfl, cond_true]
  rw [pN, mb (by decide), p1, e2]
  simp only [show decide ((16 : Int) < 32) = true from rfl, cond_true]
  rw [pN, mb (by decide), p2]; rfl
 ·rw [pN, mb (by decide), p0, e1]
  simp only [show decide ((8 : Int) < 64) = true from rfl, cond_true]
  rw [pN, mb (by decide), p1, e2]
  simp only [show decide ((16 : Int) < 64) = true from rfl, cond_true]
  rw [pN, mb (by decide), p2, e3]
  simp only [show decide ((32 : Int) < 64) = true from rfl, cond_true]
  rw [pN, mb (by decide), p3]; rfl
theorem tq {s : bf} {B V n : Nat} {v : Int} (h : Str s B V) (h0 : 0 ≤ v) (hn : n ≤ 64) (hv : v < 2 ^ n) (hB : B + n ≤ 8192) : ∃ u, bU (bL.mk s) v n = some (bL.mk u) ∧ dh s v n = some u ∧ Str u (B + n) (V * 2 ^ n + v.toNat) := by
 have hv' : v.toNat < 2 ^ n := by
  have : ((2 : Int) ^ n) = ((2 ^ n : Nat) : Int) := by push_cast; rfl
  omega
 obtain ⟨u, h1, h2, h3⟩ := aje h hn hv' hB
 rw [show ((v.toNat : Nat) : Int) = v by omega] at h1 h2
 exact ⟨u, h1, h2, h3⟩
theorem agw {s : bf} {B V : Nat} (h : Str s B V) (hB : B + 8 ≤ 8192) : Ok (nZ s) (fun p => p.1.Data = s.Data) := by
 unfold nZ
 rw [sE h (by omega), aO]
 simp only [Bool.not_true, cond_false]
 have hle := h.r.le; have ht := h.t
 refine Ok.whl (fun sg : List Int × Int => ∃ k : Nat, B + k ≤ 8 * s.Data.length ∧ sg.1 = s.Data ∧ Str (bf.mk sg.1 sg.2) (B + k) (V * 2 ^ k)) (fun sg => ((8 * s.Data.length : Nat) - sg.2).toNat) ⟨0, by omega, rfl, by simpa using h⟩ (by simp only; rw [h.b]; omega) ?_
 rintro ⟨D, N⟩ Z ⟨k, hk, hD, hs⟩ hZ
 simp only at hD hs ⊢
 have hN : N = ((B + k : Nat) : Int) := hs.b
 subst hD
 have e2 : Int.tmod N 8 = (((B + k) % 8 : Nat) : Int) := by rw [hN, Int.tmod_eq_emod_of_nonneg (by omega)]; omega
 rw [e2]
 refine Ok.cs (fun hc => ?_) fun _ => Ok.s rfl
 have hm : (B + k) % 8 ≠ 0 := by simp at hc; omega
 obtain ⟨u, hu, hus⟩ := (ab4 (b := 0) hs (by omega) (by omega)).get
 have huD : u.Data = s.Data := by
  have hx : SR s.Data (B + k + 1) (V * 2 ^ k * 2) := by
   refine ⟨h.r.by_, by omega, by omega, ?_⟩
   have e : 2 ^ (8 * s.Data.length - B) = 2 ^ k * 2 * 2 ^ (8 * s.Data.length - (B + k + 1)) := by
    rw [← Nat.pow_succ, ← Nat.pow_add]; congr 1; omega
   rw [h.r.num, e]; simp only [Nat.mul_assoc]
  exact hus.r.unique hx hus.t (by omega)
 refine Ok.bnd (P := fun x => x = u) ⟨u, hu, rfl⟩ ?_
 rintro _ rfl
 refine hZ _ ⟨k + 1, by omega, huD, ?_⟩ (by simp only; rw [hus.b, hN]; omega)
 rw [← Nat.add_assoc, Nat.pow_succ, ← Nat.mul_assoc]; exact hus
theorem aqQ {β : Type} (c : Bool) (K : Int → Option β) : jn K (fun J => bif c then J 1 else J 0) = K (bif c then 1 else 0) := by cases c <;> rfl
def tW (x : bu) : List (Nat × Nat) := [(x.bw.toNat, 7), (x.mg.toNat, 10), (x.bY.toNat, 10)]
def y2 (x : bx) : List (Nat × Nat) := [(x.cg.toNat, 3), (x.ID.toNat, 9), (yZ x.Length, 2)]
def aaV (a : ak) : List (Nat × Nat) := [(a.aj.toNat, 7), (a.Seq.toNat, 20), ((bif a.bh then 1 else 0), 1), (a.Links.length, 5)]
def acw (a : ak) : List (Nat × Nat) := (aaV a ++ a.Links.flatMap tW) ++ (a.Claims.length, 4) :: a.Claims.flatMap y2
theorem ab6 {α : Type} {l : List α} {j : Nat} {x : α} (h : l[j]? = some x) : l.take (j + 1) = l.take j ++ [x] := by
 obtain ⟨h1, rfl⟩ := List.getElem?_eq_some_iff.1 h
 rw [List.take_succ_eq_append_getElem h1]
theorem akC : ∀ l : List bu, sy (l.flatMap tW) = 27 * l.length
 | [] => rfl
 | x :: l => by rw [List.flatMap_cons, sA, akC l, List.length_cons]; simp only [tW, sy]; omega
theorem akD : ∀ l : List bx, sy (l.flatMap y2) = 14 * l.length
 | [] => rfl
 | x :: l => by rw [List.flatMap_cons, sA, akD l, List.length_cons]; simp only [y2, sy]; omega
/-- what an ye is written as -/
theorem ajf {a : ak} (h : cE a = true) : ∃ l c, eG a = some (l, 0) ∧ iz a = some (l, 0) ∧ c < 65536 ∧ SR l (sy (acw a ++ [(c, 16)])) (yf 0 (acw a ++ [(c, 16)])) := by
 have hv := acv h
 have hb := h
 simp only [cE, inB, Bool.and_eq_true, decide_eq_true_eq, List.all_eq_true] at hb
 obtain ⟨⟨⟨⟨⟨r1, r2⟩, ⟨q1, q2⟩⟩, l1⟩, ⟨gl, _⟩⟩, ⟨c1, gc, _⟩⟩ := hb
 unfold eG iz
 rw [sx, pM, h]
 obtain ⟨s1, a1, b1, t1⟩ := tq (v := a.aj) (n := 7) Str.nil (by omega) (by omega) (by omega) (by omega)
 obtain ⟨s2, a2, b2, t2⟩ := tq (v := a.Seq) (n := 20) t1 (by omega) (by omega) (by omega) (by omega)
 rw [show ((7 : Nat) : Int) = 7 from rfl] at a1 b1
 rw [show ((20 : Nat) : Int) = 20 from rfl] at a2 b2
 simp only [a1, b1, a2, b2, aO, Bool.not_true, cond_false, aqQ]
 have hcp : (0 ≤ (bif a.bh then (1 : Int) else 0) ∧ (bif a.bh then (1 : Int) else 0) < 2) ∧ (bif a.bh then (1 : Int) else 0).toNat = (bif a.bh then 1 else 0) := by cases a.bh <;> decide
 generalize (bif a.bh then (1 : Int) else 0) = cp at hcp ⊢
 obtain ⟨hcp, hcpn⟩ := hcp
 obtain ⟨s3, a3, b3, t3⟩ := tq (v := cp) (n := 1) t2 (by omega) (by omega) (by omega) (by omega)
 obtain ⟨s4, a4, b4, t4⟩ := tq (v := (a.Links.length : Int)) (n := 5) t3 (by omega) (by omega) (by omega) (by omega)
 rw [show ((1 : Nat) : Int) = 1 from rfl] at a3 b3
 rw [show ((5 : Nat) : Int) = 5 from rfl] at a4 b4
 simp only [a3, b3, a4, b4, aO]
 obtain ⟨⟨D1, N1⟩, t5, e1, e2⟩ := ab5 (L := a.Links)
  (B1 := fun (j1 : Int) (e1 : bu) (Z1 : ((List Int) × Int) → Option (List Int × Int)) (sg : (List Int) × Int) => bnd (bU (bL.mk (bf.mk sg.1 sg.2)) e1.bw (7:Int)) fun (b9 : bL) => bnd (bU b9 e1.mg (10:Int)) fun (ct : bL) => bnd (bU ct e1.bY (10:Int)) fun (dw : bL) => Z1 (dw.s_.Data, dw.s_.Bits))
  (B2 := fun (j1 : Int) (e1 : bu) (Z1 : ((List Int) × Int) → Option (List Int × Int)) (sg : (List Int) × Int) => bnd (dh (bf.mk sg.1 sg.2) e1.bw (7:Int)) fun (b9 : bf) => bnd (dh b9 e1.mg (10:Int)) fun (ct : bf) => bnd (dh ct e1.bY (10:Int)) fun (dw : bf) => Z1 (dw.Data, dw.Bits))
  (fun j sg => Str (bf.mk sg.1 sg.2) (33 + 27 * j) (yf 0 (aaV a ++ (a.Links.take j).flatMap tW))) (by
   rintro j x ⟨D, N⟩ hx t
   have hj : j < a.Links.length := (List.getElem?_eq_some_iff.1 hx).1
   have g := gl x (List.mem_of_getElem? hx)
   simp only [lp, inB, Bool.and_eq_true, decide_eq_true_eq] at g
   obtain ⟨u1, c1, d1, f1⟩ := tq (v := x.bw) (n := 7) t (by omega) (by omega) (by omega) (by omega)
   obtain ⟨u2, c2, d2, f2⟩ := tq (v := x.mg) (n := 10) f1 (by omega) (by omega) (by omega) (by omega)
   obtain ⟨u3, c3, d3, f3⟩ := tq (v := x.bY) (n := 10) f2 (by omega) (by omega) (by omega) (by omega)
   rw [show ((7 : Nat) : Int) = 7 from rfl] at c1 d1
   rw [show ((10 : Nat) : Int) = 10 from rfl] at c2 d2 c3 d3
   refine ⟨(u3.Data, u3.Bits), ?_, fun Z => ?_, fun Z => ?_⟩
   ·rw [show 33 + 27 * (j + 1) = 33 + 27 * j + 7 + 10 + 10 by omega, ab6 hx, List.flatMap_append, ← List.append_assoc, uQ]
    exact f3
   ·simp only [c1, c2, c3, aO]
   ·simp only [d1, d2, d3, aO]) (s4.Data, s4.Bits) (by
   have : yf 0 (aaV a ++ (a.Links.take 0).flatMap tW) = (((0 * 2 ^ 7 + a.aj.toNat) * 2 ^ 20 + a.Seq.toNat) * 2 ^ 1 + cp.toNat) * 2 ^ 5 + a.Links.length := by rw [hcpn]; rfl
   rw [this]; exact t4)
 rw [e1, e2]
 simp only [List.take_length] at t5 ⊢
 obtain ⟨s6, a6, b6, t6⟩ := tq (v := (a.Claims.length : Int)) (n := 4) t5 (by omega) (by omega) (by omega) (by omega)
 rw [show ((4 : Nat) : Int) = 4 from rfl] at a6 b6
 simp only [a6, b6, aO]
 obtain ⟨⟨D2, N2⟩, t7, e3, e4⟩ := ab5 (L := a.Claims)
  (B1 := fun (j2 : Int) (e2 : bx) (Z2 : ((List Int) × Int) → Option (List Int × Int)) (sg : (List Int) × Int) => whl (fun (Z3 : Int → Option (List Int × Int)) (jM : Int) => chk (decide (0 ≤ jM)) <| bif decide (IntKind.wrap .i64 ((8:Int) * 2 ^ min jM.toNat 64) < e2.Length) then Z3 (w64 (jM + (1:Int))) else bnd (bU (bL.mk (bf.mk sg.1 sg.2)) e2.cg (3:Int)) fun (bK : bL) => bnd (bU bK e2.ID (9:Int)) fun (dA : bL) => bnd (bU dA jM (2:Int)) fun (bZ : bL) => Z2 (bZ.s_.Data, bZ.s_.Bits)) (0:Int))
  (B2 := fun (j2 : Int) (e2 : bx) (Z2 : ((List Int) × Int) → Option (List Int × Int)) (sg : (List Int) × Int) => bnd (dh (bf.mk sg.1 sg.2) e2.cg (3:Int)) fun (bK : bf) => bnd (dh bK e2.ID (9:Int)) fun (dA : bf) => bnd (oP e2.Length) fun (bZ : Int) => bnd (dh dA bZ (2:Int)) fun (dL : bf) => Z2 (dL.Data, dL.Bits))
  (fun j sg => Str (bf.mk sg.1 sg.2) (37 + 27 * a.Links.length + 14 * j) (yf 0 ((aaV a ++ a.Links.flatMap tW) ++ (a.Claims.length, 4) :: (a.Claims.take j).flatMap y2))) (by
   rintro j x ⟨D, N⟩ hx t
   have hj : j < a.Claims.length := (List.getElem?_eq_some_iff.1 hx).1
   have g := gc x (List.mem_of_getElem? hx)
   simp only [kJ, inB, Bool.and_eq_true, decide_eq_true_eq] at g
   have hcd : yZ x.Length < 4 := by unfold yZ; split; omega; split; omega; split <;> omega
   obtain ⟨u1, c1, d1, f1⟩ := tq (v := x.cg) (n := 3) t (by omega) (by omega) (by omega) (by omega)
   obtain ⟨u2, c2, d2, f2⟩ := tq (v := x.ID) (n := 9) f1 (by omega) (by omega) (by omega) (by omega)
   obtain ⟨u3, c3, d3, f3⟩ := tq (v := (yZ x.Length : Int)) (n := 2) f2 (by omega) (by omega) (by omega) (by omega)
   rw [show ((3 : Nat) : Int) = 3 from rfl] at c1 d1
   rw [show ((9 : Nat) : Int) = 9 from rfl] at c2 d2
   rw [show ((2 : Nat) : Int) = 2 from rfl] at c3 d3
   refine ⟨(u3.Data, u3.Bits), ?_, fun Z => ?_, fun Z => ?_⟩
   ·rw [show 37 + 27 * a.Links.length + 14 * (j + 1) = 37 + 27 * a.Links.length + 14 * j + 3 + 9 + 2 by omega, ab6 hx, List.flatMap_append, ← List.cons_append, ← List.append_assoc, uQ]
    exact f3
   ·simp only
    rw [agv g.2]
    simp only [c1, c2, c3, aO]
   ·simp only [d1, d2, d3, aO, afp g.2]) (s6.Data, s6.Bits) (by
    rw [show 37 + 27 * a.Links.length + 14 * 0 = 33 + 27 * a.Links.length + 4 by omega, uQ]; exact t6)
 rw [e3, e4]
 simp only [List.take_length] at t7 ⊢
 obtain ⟨c, hc, k1, k2⟩ := afo t7 (by omega)
 simp only [k1, k2, aO]
 rw [cC (by omega) (by omega)]
 obtain ⟨s8, a8, b8, t8⟩ := tq (v := (c : Int)) (n := 16) t7 (by omega) (by omega) (by omega) (by omega)
 rw [show ((16 : Nat) : Int) = 16 from rfl] at a8 b8
 simp only [a8, b8, aO]
 obtain ⟨p, hp, hd⟩ := agw t8 (by omega)
 rw [hp, aO, hd]
 have hw : sy (acw a ++ [(c, 16)]) = 37 + 27 * a.Links.length + 14 * a.Claims.length + 16 := by
  rw [sA, acw, sA, sA, akC]
  simp only [sy, akD, aaV]; omega
 refine ⟨_, c, rfl, rfl, hc, ?_⟩
 rw [hw, uQ]
 exact t8.r
theorem adq {a : ak} (h : cE a = true) : ∃ l, eG a = some (l, 0) ∧ iz a = some (l, 0) := by
 obtain ⟨l, c, h1, h2, _⟩ := ajf h
 exact ⟨l, h1, h2⟩
end Go.Proofs.YtpmifmdidfgpdaaGreat

/- Plain: au6 wk, Put, by both. No condition but bT bF stand in each. -/
namespace Go.Proofs.YtpmifmdidfgpdaaGreat
set_option linter.all false
open Go
def sY (l : List Int) : List UInt8 := l.map fun n => UInt8.ofNat n.toNat
def aap (a : ak) : List Int := match eG a with | some p => p.1 | none => []
def ajg (a b : ak) : Bool := decide (b.Seq < a.Seq) || (decide (a.Seq = b.Seq) && decide (0 < qj (sY (aap a)) (sY (aap b))))
def rJ (a b : ak) : Bool := cE a && (cE b && (decide (a.aj = b.aj) && ajg a b))
theorem anB {a : ak} (h : cE a = true) : eG a = some (aap a, 0) := by
 obtain ⟨l, h1, h2⟩ := adq h
 unfold aap; rw [h1]
theorem adr {a : ak} (h : cE a = true) : iz a = some (aap a, 0) := by
 obtain ⟨l, h1, h2⟩ := adq h
 unfold aap; rw [h1, h2]
theorem ajh (x y : List Int) : ur .gtr (iI x) (iI y) = decide (0 < qj (sY x) (sY y)) := by
 show (!(Go.Op.bytesLess (iI x).toList (iI y).toList || (iI x).toList == (iI y).toList)) = _
 rw [Lib.toList_data, Lib.toList_data]
 exact agt (sY x) (sY y)
theorem anC (x y : List Int) : aqu x y = qj (sY x) (sY y) := ajd _ _
theorem adO (a b : ak) : n4 a b = some (rJ a b) := by
 unfold n4 rJ
 simp only [jn, pM, aO]
 cases ha : cE a
 ·simp
 cases hb : cE b
 ·simp
 by_cases hr : a.aj = b.aj
 ·simp only [hr, Bool.not_true, cond_false, decide_true, adr ha, adr hb, aO, ajh, ajg, Bool.true_and]
 ·simp [hr]
theorem aji (a b : ak) : ng a b = some (rJ a b) := by
 unfold ng rJ
 have hx : ∀ a, ∃ p, eG a = some p ∧ (cE a = true → p = (aap a, 0)) ∧ (cE a = false → p.2 = 1) := fun a => by
  cases h : cE a
  ·refine ⟨([], 1), ?_, fun h => by simp at h, fun _ => rfl⟩
   unfold eG; rw [sx, h]; rfl
  ·exact ⟨_, anB h, fun _ => rfl, fun h => by simp at h⟩
 obtain ⟨p, hp, hp1, hp2⟩ := hx a
 obtain ⟨q, hq, hq1, hq2⟩ := hx b
 simp only [hp, hq, aO]
 cases ha : cE a
 ·simp [hp2 ha]
 cases hb : cE b
 ·simp [hq2 hb]
 rw [hp1 ha, hq1 hb]
 by_cases hr : a.aj = b.aj
 ·simp only [hr, decide_true, Bool.not_true, Bool.or_self, cond_false, Bool.true_and, ajg]
  by_cases h1 : b.Seq < a.Seq
  ·simp [h1]
  ·by_cases h2 : a.Seq = b.Seq
   ·simp only [h2, decide_true, cond_true, rD, aO, anC]; simp
   ·simp [h1, h2]
 ·simp [hr]
/-! With -/
def ltR (r : Int) (l : List ak) : List ak := l.filter fun x => decide (x.aj < r)
def gtR (r : Int) (l : List ak) : List ak := l.filter fun x => decide (r < x.aj)
def tP (d : aH) (a : ak) : aH := aH.mk (ltR a.aj d.ay ++ a :: gtR a.aj d.ay)
theorem y3 (r : Int) (l m : List ak) : ltR r (l ++ m) = ltR r l ++ ltR r m := List.filter_append ..
theorem y4 (r : Int) (l m : List ak) : gtR r (l ++ m) = gtR r l ++ gtR r m := List.filter_append ..
theorem y5 {r : Int} {l : List ak} (h : ∀ x ∈ l, x.aj < r) : ltR r l = l := List.filter_eq_self.2 fun x hx => by simpa using h x hx
theorem w6 {r : Int} {l : List ak} (h : ∀ x ∈ l, r ≤ x.aj) : ltR r l = [] := List.filter_eq_nil_iff.2 fun x hx => by simpa using h x hx
theorem abB {r : Int} {l : List ak} (h : ∀ x ∈ l, r < x.aj) : gtR r l = l := List.filter_eq_self.2 fun x hx => by simpa using h x hx
theorem uR {r : Int} {l : List ak} (h : ∀ x ∈ l, x.aj ≤ r) : gtR r l = [] := List.filter_eq_nil_iff.2 fun x hx => by simpa using h x hx
def w8 (d : aH) : Prop := d.ay.Pairwise (fun a b => a.aj < b.aj)
theorem aaW {d : aH} (hd : w8 d) (hl : d.ay.length ≤ 100000) (a : ak) : oQ d a = some (tP d a) := by
 refine Ok.eq ?_
 unfold oQ
 refine Ok.pq (fun P (sg : Bool × List ak) => (sg.1 = false → (∀ x ∈ P, x.aj < a.aj) ∧ sg.2 = P) ∧ (sg.1 = true → (∃ x ∈ P, a.aj ≤ x.aj) ∧ sg.2 = ltR a.aj P ++ a :: gtR a.aj P) ∧ sg.2.length ≤ P.length + 1) ?_ _ ⟨fun _ => ⟨by simp, rfl⟩, fun h => by simp at h, by simp⟩ ?_
 ·rintro P e rest ⟨dn, m⟩ Z hL ⟨h1, h2, h3⟩ hZ
  simp only at h1 h2 h3 ⊢
  have hP : P.length < d.ay.length := by rw [hL]; simp
  have ajj : ∀ x ∈ P, x.aj < e.aj := fun x hx => by
   have := hd; unfold w8 at this; rw [hL] at this
   exact (List.pairwise_append.1 this).2.2 x hx e (by simp)
  simp only [jn]
  cases hdn : dn
  ·obtain ⟨g1, rfl⟩ := h1 hdn
   subst hdn
   by_cases hr : a.aj ≤ e.aj
   ·simp only [hr, decide_true, Bool.not_false, Bool.and_self, cond_true]
    rw [dZ (by simp; omega), aO]
    by_cases he : e.aj = a.aj
    ·simp only [he, decide_true, Bool.not_true, cond_false]
     refine hZ _ ⟨fun h => by simp at h, fun _ => ⟨⟨e, by simp, hr⟩, ?_⟩, by simp <;> omega⟩
     rw [y3, y4, y5 g1, uR (l := m) (fun x hx => by have := g1 x hx; omega), w6 (l := [e]) (by simp; omega), uR (l := [e]) (by simp; omega)]
     simp
    ·simp only [he, decide_false, Bool.not_false, cond_true]
     rw [dZ (by simp; omega), aO]
     refine hZ _ ⟨fun h => by simp at h, fun _ => ⟨⟨e, by simp, hr⟩, ?_⟩, by simp <;> omega⟩
     rw [y3, y4, y5 g1, uR (l := m) (fun x hx => by have := g1 x hx; omega), w6 (l := [e]) (by simp; omega), abB (l := [e]) (by simp; omega)]
     simp
   ·have he : e.aj ≠ a.aj := by omega
    simp only [hr, decide_false, Bool.and_false, cond_false, he, Bool.not_false, cond_true]
    rw [dZ (by simp; omega), aO]
    refine hZ _ ⟨fun _ => ⟨?_, rfl⟩, fun h => by simp at h, by simp <;> omega⟩
    intro x hx
    rcases List.mem_append.1 hx with hx | hx
    ·exact g1 x hx
    ·simp at hx; subst hx; omega
  ·subst hdn
   obtain ⟨⟨x, hx, hxr⟩, hm⟩ := h2 rfl
   have her : a.aj < e.aj := by have := ajj x hx; omega
   have he : e.aj ≠ a.aj := by omega
   simp only [Bool.not_true, Bool.false_and, cond_false, he, decide_false, Bool.not_false, cond_true]
   rw [dZ (by simp; omega), aO]
   refine hZ _ ⟨fun h => by simp at h, fun _ => ⟨⟨x, by simp [hx], hxr⟩, ?_⟩, by simp <;> omega⟩
   rw [y3, y4, w6 (l := [e]) (by simp; omega), abB (l := [e]) (by simp; omega), hm]
   simp
 ·rintro ⟨dn, m⟩ ⟨h1, h2, h3⟩
  simp only at h1 h2 h3 ⊢
  simp only [jn]
  unfold tP
  cases dn
  ·obtain ⟨g1, rfl⟩ := h1 rfl
   simp only [Bool.not_false, cond_true]
   rw [dZ (by simp; omega), aO]
   exact Ok.s (by rw [y5 g1, uR (fun x hx => by have := g1 x hx; omega)])
  ·obtain ⟨_, hm⟩ := h2 rfl
   exact Ok.s (by rw [hm])
/-! Put -/
def w9 (d : aH) (a : ak) : aH × Bool :=
 bif (gf d a.aj).2 && !rJ a (gf d a.aj).1 then (d, false) else (tP d a, true)
theorem agx (d : aH) (a : ak) : pI d a = some (if dbC d = 0 ∧ cE a = true then w9 d a else (d, false)) := by
 unfold pI
 simp only [jn, vz, pM, aaT, aO]
 by_cases h : dbC d = 0
 ·cases hv : cE a
  ·simp [h]
  ·have hd := sX.1 h
   simp only [h, decide_true, Bool.not_true, cond_false, and_self, if_true, w9]
   cases hf : (gf d a.aj).2
   ·simp only [cond_false, Bool.false_and]
    rw [aaW hd.asc (by have := hd.n; omega), aO]
   ·simp only [cond_true, adO, aO, Bool.true_and]
    cases rJ a (gf d a.aj).1
    ·rfl
    ·simp only [Bool.not_true, cond_false]
     rw [aaW hd.asc (by have := hd.n; omega), aO]
 ·simp [h]
theorem bsAd (l : List ak) (x : Int) (c : ak → Int → Option Int) (f : ak → Int) (hl : l.length ≤ 1000000) (hc : ∀ r, c r x = some (f r)) : cG l x c = some ((bsR f l : Int), bsT f l) := by
 unfold cG
 refine aec l f hl fun i j Z hj => ?_
 by_cases hij : i < j
 ·rw [dif_pos hij]
  simp only [aeb (i := i) (j := j) (by omega), x4 (show (i + j) / 2 < l.length by omega), aO, hc, pK]
  rw [if_pos (by omega), cC (by omega) (by omega)]
  rfl
 ·rw [dif_neg hij]
  simp only [pK]
  rw [if_neg (by omega)]
  by_cases hi : i < l.length
  ·rw [if_pos (by omega), x4 hi]; simp only [aO, hc]; simp [hi]
  ·rw [if_neg (by omega)]; simp [hi]
theorem anD (x : ak) (r : Int) : kW x r = some (eY x.aj r) := by
 unfold kW; rw [abr, aO]
theorem aaq (x y : Int) : (eY x y < 0 ↔ x < y) ∧ (eY x y = 0 ↔ x = y) := by
 unfold eY; split
 ·exact ⟨by omega, by omega⟩
 ·split
  ·exact ⟨by omega, by omega⟩
  ·exact ⟨by omega, by omega⟩
theorem aek {d : aH} (hd : w8 d) (r : Int) : ∀ a b : Nat, a ≤ b → b < d.ay.length → eY (el d.ay a).aj r ≤ eY (el d.ay b).aj r :=
 uN (f := fun x : ak => eY x.aj r) (hd.imp fun h => by
  unfold eY; split <;> split <;> (try split) <;> (try split) <;> omega)
/-- the place of a aC -/
theorem ajk {d : aH} (hd : w8 d) (r : Int) : d.ay.take (bsR (fun x : ak => eY x.aj r) d.ay) = ltR r d.ay ∧
  (bsT (fun x : ak => eY x.aj r) d.ay = (gf d r).2) ∧ bsR (fun x : ak => eY x.aj r) d.ay ≤ d.ay.length ∧
  ((gf d r).2 = false → d.ay.drop (bsR (fun x : ak => eY x.aj r) d.ay) = gtR r d.ay) ∧
  ((gf d r).2 = true → d.ay.drop (bsR (fun x : ak => eY x.aj r) d.ay) = (gf d r).1 :: gtR r d.ay) := by
 obtain ⟨h1, h2, h3⟩ := ac9 (f := fun x : ak => eY x.aj r) (aek hd r)
 have hT := aed (f := fun x : ak => eY x.aj r) (aek hd r)
 generalize bsR (fun x : ak => eY x.aj r) d.ay = n at h1 h2 h3 ⊢
 have ht : ∀ x ∈ d.ay.take n, x.aj < r := fun x hx => by
  obtain ⟨i, hi, rfl⟩ := List.getElem_of_mem hx
  rw [List.length_take] at hi
  have := h2 i (by omega)
  rw [uM (by omega)] at this
  rw [List.getElem_take]
  exact (aaq _ _).1.1 this
 have hg : ∀ x ∈ d.ay.drop n, r ≤ x.aj := fun x hx => by
  obtain ⟨i, hi, rfl⟩ := List.getElem_of_mem hx
  rw [List.length_drop] at hi
  have := h3 (n + i) (by omega) (by omega)
  rw [uM (by omega)] at this
  rw [List.getElem_drop]
  have q := (aaq (d.ay[n + i]).aj r).1
  have q2 : ¬ eY (d.ay[n + i]).aj r < 0 := by omega
  rw [q] at q2; omega
 have hs := List.take_append_drop n d.ay
 have e1 : ltR r d.ay = d.ay.take n := by
  conv => lhs; rw [← hs]
  rw [y3, y5 ht, w6 hg, List.append_nil]
 have e2 : gtR r d.ay = gtR r (d.ay.drop n) := by
  conv => lhs; rw [← hs]
  rw [y4, uR (l := d.ay.take n) (fun x hx => by have := ht x hx; omega), List.nil_append]
 have e3 : bsT (fun x : ak => eY x.aj r) d.ay = (gf d r).2 := by
  rw [Bool.eq_iff_iff, hT]
  simp only [(aaq _ _).2]
  rcases tN d r with ⟨a, ha, he, hf⟩ | ⟨hn, hf⟩
  ·rw [hf]; exact ⟨fun _ => rfl, fun _ => ⟨a, ha, he⟩⟩
  ·rw [hf]; exact ⟨fun ⟨a, ha, he⟩ => absurd he (hn a ha), fun h => by simp at h⟩
 refine ⟨e1.symm, e3, h1, fun hf => ?_, fun hf => ?_⟩
 ·rw [e2, abB]
  intro x hx
  rcases tN d r with ⟨a, ha, he, hf2⟩ | ⟨hn, hf2⟩
  ·rw [hf2] at hf; simp at hf
  ·have := hg x hx; have := hn x (List.mem_of_mem_drop hx); omega
 ·rcases tN d r with ⟨a, ha, he, hf2⟩ | ⟨hn, hf2⟩
  ·rw [hf2, e2]
   have hmem : a ∈ d.ay.drop n := by
    have : a ∈ d.ay.take n ++ d.ay.drop n := by rw [hs]; exact ha
    rcases List.mem_append.1 this with q | q
    ·have := ht a q; omega
    ·exact q
   have hp : (d.ay.drop n).Pairwise (fun a b => a.aj < b.aj) := List.Pairwise.sublist (List.drop_sublist n _) hd
   cases hD : d.ay.drop n with
   | nil => rw [hD] at hmem; simp at hmem
   | cons y t =>
    rw [hD] at hp hmem hg
    rw [List.pairwise_cons] at hp
    rcases List.mem_cons.1 hmem with q | q
    ·subst q
     show _ = a :: (a :: t).filter _
     rw [List.filter_cons_of_neg (by simp [he])]
     congr 1
     exact (List.filter_eq_self.2 fun x hx => by have := hp.1 x hx; simp; omega).symm
    ·have := hp.1 a q; have := hg y (by simp); omega
  ·rw [hf2] at hf; simp at hf
theorem aqR {d : aH} (hd : w8 d) (hl : d.ay.length ≤ 100000) {a : ak} (ha : SmA a) : kO d a = some ((w9 d a).2, (w9 d a).1) := by
 unfold kO
 rw [bsAd d.ay a.aj _ (fun x => eY x.aj a.aj) (by omega) (fun x => anD x _), aO]
 obtain ⟨p1, p2, p3, p4, p5⟩ := ajk hd a.aj
 simp only [jn, p2]
 generalize bsR (fun x : ak => eY x.aj a.aj) d.ay = n at *
 unfold w9 tP
 cases hf : (gf d a.aj).2
 ·simp only [Bool.not_false, cond_true, Bool.false_and, cond_false, vh ha, aO]
  have : aa9 d.ay (n : Int) a = some (ltR a.aj d.ay ++ a :: gtR a.aj d.ay) := by
   unfold aa9
   rw [if_pos ⟨⟨by omega, by omega⟩, by unfold cap; omega⟩, Int.toNat_natCast, p1, p4 hf]
  rw [this, aO]
 ·have hD := p5 hf
  have hn : n < d.ay.length := by
   have := congrArg List.length hD
   rw [List.length_drop, List.length_cons] at this; omega
  have he : d.ay[n] = (gf d a.aj).1 := by
   rw [List.drop_eq_getElem_cons hn] at hD
   exact (List.cons.inj hD).1
  have hel : elO d.ay (n : Int) = some (gf d a.aj).1 := by
   rw [← he]; unfold elO; rw [if_pos (by omega)]; simp [hn]
  simp only [Bool.not_true, cond_false, hel, aO, aji, Bool.true_and]
  cases hnw : rJ a (gf d a.aj).1
  ·rfl
  ·simp only [cond_true, vh ha, aO, Bool.not_true, cond_false]
   have : iZ d.ay (n : Int) a = some (ltR a.aj d.ay ++ a :: gtR a.aj d.ay) := by
    unfold iZ
    rw [if_pos ⟨by omega, by omega⟩, Int.toNat_natCast, List.set_eq_take_append_cons_drop, if_pos hn, p1]
    rw [List.drop_eq_getElem_cons hn] at hD
    rw [(List.cons.inj hD).2]
   rw [this, aO]
theorem ajl {d : aH} (hd : SmD d) : jq d = some d := by
 refine Ok.eq ?_
 unfold jq
 refine Ok.pq (fun P (m : List ak) => m = P) ?_ _ rfl (fun m hm => Ok.s (by rw [hm]))
 rintro P x r m Z hL rfl hZ
 have hx : x ∈ d.ay := by rw [hL]; simp
 have hl : m.length < d.ay.length := by rw [hL]; simp
 have := hd.1
 rw [vh (hd.2 x hx), aO, dZ (by simp; omega), aO]
 exact hZ _ rfl
theorem aqS {d : aH} (hd : SmD d) {a : ak} (ha : SmA a) : nh d a = some (if dbC d = 0 ∧ cE a = true then w9 d a else (d, false)) := by
 unfold nh
 simp only [jn, ajl hd, aal, sx, aO]
 by_cases h : dbC d = 0
 ·cases hv : cE a
  ·simp [h]
  ·simp only [h, decide_true, Bool.not_true, cond_false, and_self, if_true]
   rw [aqR (sX.1 h).asc hd.1 ha, aO]
 ·simp [h]
end Go.Proofs.YtpmifmdidfgpdaaGreat

/- Plain: ab0 as cw of nq; Put and au7. No condition but bT bF stand in each. -/
namespace Go.Proofs.YtpmifmdidfgpdaaGreat
set_option linter.all false
open Go
theorem ael : ∀ (l : List ak) (lo : Int), l.Pairwise (fun a b => a.aj < b.aj) → (∀ x ∈ l, lo ≤ x.aj ∧ x.aj ≤ 99) → (l.length : Int) ≤ max 0 (100 - lo)
 | [], lo, _, _ => by simp; omega
 | x :: r, lo, h, hb => by
  rw [List.pairwise_cons] at h
  have h1 := hb x (by simp)
  have := ael r (x.aj + 1) h.2 fun y hy => ⟨by have := h.1 y hy; omega, (hb y (by simp [hy])).2⟩
  simp only [List.length_cons]
  omega
theorem au8 {d : aH} (h1 : ∀ a ∈ d.ay, cE a = true) (h2 : w8 d) : Vd d := by
 refine ⟨?_, h1, h2⟩
 have := ael d.ay 1 h2 fun x hx => (acv (h1 x hx)).r
 omega
theorem ajm {d : aH} {a x : ak} : x ∈ (tP d a).ay ↔ x = a ∨ (x ∈ d.ay ∧ x.aj ≠ a.aj) := by
 simp only [tP, List.mem_append, List.mem_cons, ltR, gtR, List.mem_filter, decide_eq_true_eq]
 constructor
 ·rintro (⟨h1, h2⟩ | rfl | ⟨h1, h2⟩)
  ·exact .inr ⟨h1, by omega⟩
  ·exact .inl rfl
  ·exact .inr ⟨h1, by omega⟩
 ·rintro (rfl | ⟨h1, h2⟩)
  ·exact .inr (.inl rfl)
  ·rcases Int.lt_or_gt_of_ne h2 with h | h
   ·exact .inl ⟨h1, h⟩
   ·exact .inr (.inr ⟨h1, h⟩)
theorem ajn {d : aH} (h : w8 d) (a : ak) : w8 (tP d a) := by
 unfold w8 tP
 simp only
 refine List.pairwise_append.2 ⟨List.Pairwise.sublist List.filter_sublist h, List.pairwise_cons.2 ⟨fun y hy => by simpa [gtR] using (List.mem_filter.1 hy).2, List.Pairwise.sublist List.filter_sublist h⟩, fun x hx y hy => ?_⟩
 have h1 : x.aj < a.aj := by simpa using (List.mem_filter.1 hx).2
 rcases List.mem_cons.1 hy with rfl | hy
 ·exact h1
 ·have : a.aj < y.aj := by simpa using (List.mem_filter.1 hy).2
  omega
theorem Vd.with {d : aH} (h : Vd d) {a : ak} (ha : cE a = true) : Vd (tP d a) :=
 au8 (fun x hx => by rcases ajm.1 hx with rfl | ⟨h1, _⟩; exact ha; exact h.ok x h1) (ajn h.asc a)
theorem Vd.put {d : aH} (h : Vd d) {a : ak} (ha : cE a = true) : Vd (w9 d a).1 := by
 unfold w9
 cases (gf d a.aj).2 && !rJ a (gf d a.aj).1
 ·exact h.with ha
 ·exact h
/-! ## what is known of a aC -/
def mx (o : Option ak) (a : ak) : ak := match o with | none => a | some x => bif rJ a x then a else x
/-! ## au6 is an order -/
/-! ## au7 -/
theorem Va.sm {a : ak} (h : cE a = true) : SmA a := by have := acv h; exact ⟨by have := this.n; omega, by have := this.nc; omega⟩
theorem aaX (a : aH) : mK a a = true := by unfold mK; rw [wZ mJ aaS]; simp
end Go.Proofs.YtpmifmdidfgpdaaGreat

/- Plain: the ye of a aC of a aai, by the specification. No condition but bT bF stand in each. -/
namespace Go.Proofs.YtpmifmdidfgpdaaGreat
set_option linter.all false
open Go
def o6 (t : aB) (r n : Int) : bu := match t.Links.find? (fun l => gW l r n) with | some l => bu.mk n (nu r n l).1 l.bY | none => bu.mk n 0 0
def afq (t : aB) (r : Int) : Bool := match t.aK.find? (fun x => decide (x.ID = r)) with | some x => x.bh | none => false
def ofA (t : aB) (r seq : Int) (cl : List bx) : ak := ak.mk r seq (afq t r) ((jD t r).map (o6 t r)) cl
theorem aem (t : aB) (r n : Int) : (o6 t r n).bw = n := by unfold o6; split <;> rfl
theorem xb {t : aB} (hv : Vt t) {a b : Int} {l : aX} (hl : l ∈ t.Links) (he : gW l a b = true) : o6 t a b = bu.mk b (nu a b l).1 l.bY := by
 unfold o6
 cases hf : t.Links.find? (fun l => gW l a b) with
 | none => exact absurd he (List.find?_eq_none.1 hf l hl)
 | some x =>
  have hx := List.mem_of_find?_eq_some hf
  have hp := List.find?_some hf
  have h1 := hv.lt _ hl
  have h2 := hv.lt _ hx
  simp [gW] at he hp
  rw [adf hv hx hl (by omega) (by omega)]
theorem aen {t : aB} (hv : Vt t) {l : aX} (hl : l ∈ t.Links) : o6 t l.A l.B = bu.mk l.B l.jx l.bY := by
 rw [xb hv hl (by simp [gW])]; simp [nu]
theorem aeo {t : aB} (hv : Vt t) {l : aX} (hl : l ∈ t.Links) : o6 t l.B l.A = bu.mk l.A l.jc l.bY := by
 have := hv.lt _ hl
 rw [xb hv hl (by simp [gW])]
 have e : (decide (l.A = l.B) && decide (l.B = l.A)) = false := by simp; omega
 simp only [nu, e, cond_false]
theorem adt {t : aB} (hv : Vt t) (r : Int) : iK t r = some (afq t r) := by
 unfold iK
 simp only [sU, aO, oe.2 hv, decide_true, Bool.not_true, cond_false]
 refine (sV (fun x : aZ => decide (x.ID = r)) (fun x => some x.bh) (fun _ _ _ _ => rfl) _ _ _).trans ?_
 unfold afq
 cases t.aK.find? (fun x => decide (x.ID = r)) <;> rfl
theorem xd {t : aB} (hv : Vt t) {r : Int} (hr : r ∈ ids t) : (jD t r).length ≤ 23 := by
 have h1 : r ∉ jD t r := fun h => agn hv ((jO hv).1 h) rfl
 have h2 : (jD t r).Nodup := (wV hv r).imp fun h => by omega
 have := sW (a := r :: jD t r) (b := ids t) (List.nodup_cons.2 ⟨h1, h2⟩) fun x hx => by
  rcases List.mem_cons.1 hx with rfl | hx
  ·exact hr
  ·exact (List.mem_filter.1 hx).1
 have h3 := yW hv
 simp only [List.length_cons] at this
 omega
theorem ajo {t : aB} (hv : Vt t) {r : Int} (hr : r ∈ ids t) (seq : Int) (cl : List bx) : rG t r seq cl = some (bif cE (ofA t r seq cl) then (ofA t r seq cl, 0) else (noA, 2)) := by
 refine Ok.eq ?_
 unfold rG
 simp only [sU, aeh, adt hv, aak hv, aO, oe.2 hv, sj.1 hr, decide_true, Bool.not_true, cond_false, Bool.true_and]
 refine Ok.pq (fun P (m : List bu) => m = P.map (o6 t r)) ?_ _ rfl ?_
 ·rintro P n rest m Z hL rfl hZ
  have vw : nv t r n = true := (jO hv).1 (by rw [hL]; simp)
  have hlen : P.length < (jD t r).length := by rw [hL]; simp
  have hl23 := xd hv hr
  obtain ⟨l, hl, hc⟩ := o5.1 vw
  have hlt := hv.lt l hl
  have he : gW l r n = true := by simp [gW]; omega
  rw [abZ, aO]
  refine Ok.pq (fun P2 (m2 : Int) => l ∈ P2 → m2 = l.bY) ?_ _ (by simp) ?_
  ·rintro P2 x rest2 m2 Z2 hL2 hm2 hZ2
   have hx : x ∈ t.Links := by rw [hL2]; simp
   have hmin : (if n < r then n else r) = l.A := by split <;> omega
   have hmax : (if n > r then n else r) = l.B := by split <;> omega
   rw [hmin, hmax]
   simp only [jn]
   refine Ok.cs (fun h => ?_) fun h => ?_
   ·simp at h
    refine hZ2 _ fun _ => ?_
    rw [adf hv hx hl h.1 h.2]
   ·refine hZ2 _ fun hm => ?_
    rcases List.mem_append.1 hm with hm | hm
    ·exact hm2 hm
    ·simp at hm; subst hm; simp at h
  ·intro m2 hm2
   rw [dZ (by simp; omega), aO]
   refine hZ _ ?_
   rw [List.map_append, hm2 hl, List.map_cons, List.map_nil, xb hv hl he, aja hv hl he]
 ·rintro m rfl
  rw [pM, aO]
  show Ok (bif !cE (ofA t r seq cl) then _ else _) _
  cases cE (ofA t r seq cl)
  ·exact Ok.s rfl
  ·exact Ok.s rfl
theorem aqT {α : Type} {p : α → α → Bool} {l : List α} (h : l.Pairwise fun a b => p a b = true) : fH p l = true := nt h
/-- what makes the ye of a aC valid -/
theorem agy {t : aB} (hv : Vt t) {r : Int} (hr : r ∈ ids t) (seq : Int) (cl : List bx) : cE (ofA t r seq cl) = (inB seq 1 1000000 && (decide ((cl.length : Int) ≤ 8) && (cl.all kJ && sv cl))) := by
 have h23 := xd hv hr
 have hr99 : inB r 1 99 = true := by
  obtain ⟨x, hx, e⟩ := List.mem_map.1 hr
  have := hv.idr x hx
  simp only [inB, Bool.and_eq_true, decide_eq_true_eq]; omega
 have wC : ((jD t r).map (o6 t r)).all (lp (ofA t r seq cl)) = true := by
  rw [List.all_eq_true]
  intro x hx
  obtain ⟨n, hn, rfl⟩ := List.mem_map.1 hx
  have vw := (jO hv).1 hn
  obtain ⟨y, hy, e⟩ := List.mem_map.1 (yU hv vw)
  have hid := hv.idr y hy
  obtain ⟨l, hl, hc⟩ := o5.1 vw
  have hlt := hv.lt l hl
  have hb := hv.okl l hl
  simp only [vu, rI, Bool.or_eq_false_iff, Bool.not_eq_false', Bool.and_eq_true, decide_eq_true_eq, decide_eq_false_iff_not] at hb
  have hne := agn hv vw
  rw [xb hv hl (by simp [gW]; omega)]
  have hp : 1 ≤ (nu r n l).1 ∧ (nu r n l).1 ≤ 1000 := by
   unfold nu
   simp only
   cases (decide (l.A = r) && decide (l.B = n)) <;> simp <;> omega
  have er : (ofA t r seq cl).aj = r := rfl
  simp only [lp, inB, er, Bool.and_eq_true, decide_eq_true_eq, Bool.not_eq_true', decide_eq_false_iff_not]
  exact ⟨⟨⟨⟨by omega, by omega⟩, fun h => hne h.symm⟩, hp⟩, by omega, by omega⟩
 have ajj : uO ((jD t r).map (o6 t r)) = true := by
  refine aqT (List.pairwise_map.2 ((wV hv r).imp fun h => ?_))
  simp only [aem, decide_eq_true_eq]; exact h
 have e1 : (ofA t r seq cl).Links = (jD t r).map (o6 t r) := rfl
 unfold cE
 rw [e1, wC, ajj]
 have e2 : decide ((((jD t r).map (o6 t r)).length : Int) ≤ 23) = true := by simp; omega
 rw [e2]
 show (inB r 1 99 && inB seq 1 1000000 && true && (true && true) && (decide ((cl.length : Int) ≤ 8) && (cl.all kJ && sv cl))) = _
 rw [hr99]; simp
end Go.Proofs.YtpmifmdidfgpdaaGreat

/- Plain: the wS bF the tape ajs yM ajc are valid. No condition. -/
namespace Go.Proofs.YtpmifmdidfgpdaaGreat
set_option linter.all false
open Go
/-- one link of the tape, ahead of the order -/
def coL (l m : aX) : Prop := l.B < m.B ∨ (l.B = m.B ∧ l.A < m.A)
theorem agz {l : List aX} (hl : l.length ≤ 1000000) (hd : l.Pairwise coL) : Ok (ry l) (fun m => m.Pairwise (fun a b => ltL a b = true) ∧ (∀ x, x ∈ m ↔ x ∈ l) ∧ m.length = l.length) := by
 unfold ry
 refine Ok.pq (fun P m => m.Pairwise (fun a b => ltL a b = true) ∧ (∀ x, x ∈ m ↔ x ∈ P) ∧ m.length = P.length) ?_ _ ⟨by simp, by simp, rfl⟩ fun s hs => Ok.s hs
 rintro P x r s Z hL ⟨i1, i2, i3⟩ hZ
 have hP : P.length < l.length := by rw [hL]; simp
 have hne : ∀ y ∈ s, ltL y x = false → ltL x y = true := fun y hy h => by
  rw [hL] at hd
  have := (List.pairwise_append.1 hd).2.2 y ((i2 y).1 hy) x (by simp)
  simp only [ltL, Bool.or_eq_false_iff, Bool.and_eq_false_iff, decide_eq_false_iff_not, Bool.or_eq_true, Bool.and_eq_true, decide_eq_true_eq] at *
  unfold coL at this
  omega
 refine Ok.whl (fun at1 : Int => (0 ≤ at1 ∧ at1 ≤ s.length) ∧ ∀ y ∈ s.take at1.toNat, ltL y x = true) (fun at1 => ((s.length : Int) - at1).toNat) ⟨by omega, by simp⟩ (by omega) ?_
 rintro a Z2 ⟨⟨ha0, ha1⟩, hlt⟩ hZ2
 refine Ok.jn (fun v : Bool => (v = true → ∃ h : a.toNat < s.length, ltL s[a.toNat] x = true) ∧ (v = false → ∀ h : a.toNat < s.length, ltL s[a.toNat] x = false)) ?_ ?_
 ·rintro v ⟨hv, hv2⟩
  refine Ok.cs (fun h => ?_) fun h => ?_
  ·obtain ⟨h1, h2⟩ := hv h
   rw [cC (by omega) (by omega)]
   refine hZ2 _ ⟨by omega, fun y hy => ?_⟩ (by omega)
   rw [show (a + 1).toNat = a.toNat + 1 by omega, List.take_succ_eq_append_getElem h1] at hy
   rcases List.mem_append.1 hy with hy | hy
   ·exact hlt y hy
   ·simp at hy; subst hy; exact h2
  ·have hv2 := hv2 h
   refine Ok.bnd (we ⟨by omega, by omega, by omega⟩) fun l1 h1 => ?_
   refine Ok.bnd (gr (by simp; omega)) fun l2 h2 => ?_
   refine Ok.bnd (gr (by simp at h2 ⊢; omega)) fun l3 h3 => ?_
   refine Ok.bnd (we ⟨by omega, by omega, by omega⟩) fun l4 h4 => ?_
   refine Ok.bnd (gr (by simp at h2 h3 ⊢; omega)) fun l5 h5 => ?_
   have e5 : l5 = s.take a.toNat ++ x :: s.drop a.toNat := by
    rw [h5.1, h3.1, h2.1, h1.1, h4.1]; simp
   have hgt : ∀ y ∈ s.drop a.toNat, ltL x y = true := fun y hy => by
    have hlen : a.toNat < s.length := by
     have := List.length_pos_of_mem hy
     rw [List.length_drop] at this; omega
    rw [List.drop_eq_getElem_cons hlen] at hy
    have h0 := hne _ (List.getElem_mem hlen) (hv2 hlen)
    rcases List.mem_cons.1 hy with rfl | hy
    ·exact h0
    ·have hp : (s.drop a.toNat).Pairwise (fun a b => ltL a b = true) := i1.sublist (List.drop_sublist _ _)
     rw [List.drop_eq_getElem_cons hlen, List.pairwise_cons] at hp
     exact vg _ _ _ h0 (hp.1 y hy)
   refine hZ _ ⟨?_, fun y => ?_, ?_⟩
   ·rw [e5]
    refine List.pairwise_append.2 ⟨i1.sublist (List.take_sublist _ _), List.pairwise_cons.2 ⟨hgt, i1.sublist (List.drop_sublist _ _)⟩, fun y hy z hz => ?_⟩
    rcases List.mem_cons.1 hz with rfl | hz
    ·exact hlt y hy
    ·exact vg _ _ _ (hlt y hy) (hgt z hz)
   ·have hs := List.take_append_drop a.toNat s
    have : y ∈ s ↔ y ∈ s.take a.toNat ∨ y ∈ s.drop a.toNat := by rw [← List.mem_append, hs]
    rw [e5, List.mem_append, List.mem_cons, List.mem_append, List.mem_singleton, ← i2 y, this]
    constructor
    ·rintro (h | h | h); exact .inl (.inl h); exact .inr h; exact .inl (.inr h)
    ·rintro ((h | h) | h); exact .inl h; exact .inr (.inr h); exact .inr (.inl h)
   ·rw [e5]; simp; omega
 ·intro J hJ
  refine Ok.cs (fun h => ?_) fun h => hJ _ ⟨by simp, fun _ h2 => by simp at h; omega⟩
  simp at h
  refine Ok.bnd (kY ha0 h) fun e he => ?_
  obtain ⟨h1, h2⟩ := List.getElem?_eq_some_iff.1 he.2
  subst h2
  refine Ok.cs (fun g => hJ _ ⟨fun _ => ⟨h1, by simp [ltL]; simp at g; omega⟩, by simp⟩) fun g => ?_
  refine Ok.cs (fun g2 => ?_) fun g2 => hJ _ ⟨by simp, fun _ _ => by simp [ltL]; simp at g g2; omega⟩
  refine hJ _ ⟨fun hd => ⟨h1, ?_⟩, fun hd _ => ?_⟩
  ·simp at g g2 hd; simp [ltL]; omega
  ·simp at g g2 hd; simp [ltL]; omega
def abC (l : aX) : Prop := 1 ≤ l.A ∧ l.A < l.B ∧ (1 ≤ l.jx ∧ l.jx ≤ 5) ∧ (1 ≤ l.jc ∧ l.jc ≤ 5) ∧ 0 ≤ l.bY ∧ l.bY ≤ 3
/-- a aai of the tape: the nq from 1 on -/
structure Vg (g : aB) (most : Int) : Prop where
 v : Vt g
 n : 1 ≤ g.aK.length ∧ (g.aK.length : Int) ≤ most
 i : ∀ r ∈ g.aK, r.ID ≤ most
theorem adP {t : aP} {most : Int} (h : cH t) (hm : 1 ≤ most ∧ most ≤ 8) : Ok (jH t most 0) (fun p => Vg p.1 most ∧ cH p.2) := by
 unfold jH
 refine Ok.bnd (mC h) fun p hp => ?_
 obtain ⟨hk, hp⟩ := hp
 have hk := hk (by omega) (by omega) (by omega)
 refine Ok.chk (by simp; omega) ?_
 refine Ok.eU (fun j (m : List aZ) => (m.length : Int) = j - 1 ∧ m.Pairwise (fun a b => a.ID < b.ID) ∧ (∀ r ∈ m, 1 ≤ r.ID ∧ r.ID < j) ∧ ∀ i, 1 ≤ i → i < j → ∃ r ∈ m, r.ID = i) 1 (p.1 + 1) ?_ ?_ _ _ _ rfl (by omega) (by omega) ⟨by simp, by simp, by simp, fun i h1 h2 => by omega⟩
 ·rintro i s Z h1 h2 ⟨hI, hI2, hI3, hI4⟩ hZ
  refine Ok.bnd (gr (by simp; omega)) fun l1 hl1 => hZ _ ⟨by have := hl1.2; simp at this; omega, ?_, ?_, ?_⟩
  ·rw [hl1.1]
   refine List.pairwise_append.2 ⟨hI2, by simp, fun a ha b hb => ?_⟩
   have := hI3 a ha
   simp at hb; subst hb; exact this.2
  ·rw [hl1.1]; intro r hr
   rcases List.mem_append.1 hr with hr | hr
   ·have := hI3 r hr; omega
   ·simp at hr; subst hr; simp only; omega
  ·rw [hl1.1]; intro j h3 h4
   by_cases e : j = i
   ·exact ⟨aZ.mk i true, List.mem_append_right _ (by simp), e.symm⟩
   ·obtain ⟨r, hr, e2⟩ := hI4 j h3 (by omega)
    exact ⟨r, List.mem_append_left _ hr, e2⟩
 rintro i rs hi1 hi2 ⟨hrs, hrs2, aqU, aqV⟩
 have hi2 := hi2 (by omega)
 subst hi2
 refine Ok.bnd (kP hp (by decide) (by decide)) fun c hc => ?_
 have akE : 1 ≤ c.1 ∧ c.1 ≤ 5 := by have := hc.1; simp at this; omega
 refine Ok.chk (by simp; omega) ?_
 refine Ok.eU (fun j (s : List aX × List Int × Int) => ((s.1.length : Int) ≤ 8 * (j - 2) ∧ (∀ l ∈ s.1, abC l ∧ l.B < j) ∧ s.1.Pairwise coL) ∧ cH (aP.mk s.2.1 s.2.2)) 2 (if 2 ≤ p.1 + 1 then p.1 + 1 else 2) ?_ ?_ _ _ _ ?_ (by omega) ?_ ⟨by simp, hc.2⟩
 ·intro b s Z hb1 hb2 hI hZ
  have hb3 : b < p.1 + 1 := by split at hb2 <;> omega
  obtain ⟨ms, L, At⟩ := s
  obtain ⟨⟨hlen, hok, hpw⟩, ht⟩ := hI
  simp only at hlen hok hpw
  refine Ok.bnd (mC ht) fun tr htr => ?_
  refine Ok.bnd (wh htr.2 (by omega)) fun sk hsk => ?_
  refine Ok.chk (by simp; omega) ?_
  refine Ok.eU (fun a (s : List aX × List Int × Int) => ((s.1.length : Int) ≤ 8 * (b - 2) + (a - 1) ∧ (∀ l ∈ s.1, abC l ∧ (l.B < b ∨ l.B = b ∧ l.A < a)) ∧ s.1.Pairwise coL) ∧ cH (aP.mk s.2.1 s.2.2)) 1 b ?_ ?_ _ _ _ rfl (by omega) (by omega) ⟨⟨by simp only; omega, fun l hl => ⟨(hok l hl).1, .inl (hok l hl).2⟩, hpw⟩, hsk⟩
  ·intro a s Z3 ha1 ha2 hI3 hZ3
   obtain ⟨m5, m6, m7⟩ := s
   obtain ⟨⟨hl5, vB, abD⟩, ht5⟩ := hI3
   simp only at hl5 vB abD
   refine Ok.jn (fun s : List Int × Int × List aX => ((s.2.2.length : Int) ≤ 8 * (b - 2) + a ∧ (∀ l ∈ s.2.2, abC l ∧ (l.B < b ∨ l.B = b ∧ l.A < a + 1)) ∧ s.2.2.Pairwise coL) ∧ cH (aP.mk s.1 s.2.1)) (fun s hs => hZ3 _ ⟨by have h := hs.1; obtain ⟨_, _, _⟩ := s; simp only at h ⊢; exact ⟨by omega, h.2⟩, hs.2⟩) fun J1 hJ1 => ?_
   refine Ok.jn (fun s : Bool × List Int × Int => cH (aP.mk s.2.1 s.2.2)) (fun s hs => ?_) fun J2 hJ2 => ?_
   ·obtain ⟨v, m11, m12⟩ := s
    refine Ok.cs (fun _ => ?_) fun _ => hJ1 _ ⟨⟨by simp only; omega, fun l hl => ⟨(vB l hl).1, by have := (vB l hl).2; omega⟩, abD⟩, hs⟩
    refine Ok.bnd (mC hs) fun q7 h7 => ?_
    refine Ok.bnd (mC h7.2) fun q8 h8 => ?_
    refine Ok.bnd (fZ h8.2 (by omega)) fun q9 h9 => ?_
    have c7 := h7.1 (by omega) (by omega) (by omega)
    have c8 := h8.1 (by omega) (by omega) (by omega)
    have c9 := h9.1.2.1 (by omega)
    have c90 := h9.1.1
    refine Ok.bnd (gr (by simp; omega)) fun l2 hl2 => hJ1 _ ⟨⟨by have := hl2.2; rw [List.length_cons, List.length_nil] at this; simp only; omega, ?_, ?_⟩, h9.2⟩
    ·simp only [hl2.1]; intro l hl
     rcases List.mem_append.1 hl with hl | hl
     ·exact ⟨(vB l hl).1, by have := (vB l hl).2; omega⟩
     ·simp only [List.mem_singleton] at hl; subst hl
      exact ⟨⟨ha1, ha2, ⟨c7.1, Int.le_trans c7.2 akE.2⟩, ⟨c8.1, Int.le_trans c8.2 akE.2⟩, c90, by show q9.1 ≤ 3; omega⟩, .inr ⟨rfl, by show a < a + 1; omega⟩⟩
    ·simp only [hl2.1]
     refine List.pairwise_append.2 ⟨abD, by simp, fun l hl m hm => ?_⟩
     have := (vB l hl).2
     simp at hm; subst hm; unfold coL; simp only; omega
   ·refine Ok.cs (fun _ => ?_) fun _ => Ok.bnd (wh ht5 (by omega)) fun q h => hJ2 _ h
    exact Ok.cs (fun _ => hJ2 _ ht5) fun _ => Ok.bnd (wh ht5 (by omega)) fun q h => hJ2 _ h
  ·intro a s ha1 ha2 hI3
   have ha2 := ha2 (by omega)
   obtain ⟨m5, m6, m7⟩ := s
   obtain ⟨⟨hl5, vB, abD⟩, ht5⟩ := hI3
   simp only at hl5 vB abD
   exact hZ _ ⟨⟨by simp only; omega, fun l hl => ⟨(vB l hl).1, by have := (vB l hl).2; omega⟩, abD⟩, ht5⟩
 ·intro b s hb1 hb2 hI
  have hb2 := hb2 (by split <;> omega)
  have hb3 : b ≤ 9 := by split at hb2 <;> omega
  obtain ⟨m2, m3, m4⟩ := s
  obtain ⟨⟨hlen, hok, hpw⟩, ht⟩ := hI
  simp only at hlen hok hpw
  refine Ok.bnd (agz (by omega) hpw) fun l hl => ?_
  obtain ⟨hl1, hl2, hl3⟩ := hl
  have hV : Vg (aB.mk rs l) most := by
   have hb4 : b = p.1 + 1 := by split at hb2 <;> omega
   have afr : ∀ x ∈ l, abC x ∧ x.B < p.1 + 1 := fun x hx => by
    have := hok x ((hl2 x).1 hx)
    exact ⟨this.1, by omega⟩
   refine ⟨⟨by simp only; omega, by simp only; omega, fun r hr => by have := aqU r hr; omega, hrs2, fun x hx => ?_, fun x hx => ?_, fun x hx => (afr x hx).1.2.1, hl1⟩, by simp only; omega, fun r hr => by have := aqU r hr; omega⟩
   ·have := (afr x hx).1
    unfold abC at this
    have c1 : rI x.jx = true := by simp [rI]; omega
    have c2 : rI x.jc = true := by simp [rI]; omega
    simp only [vu, c1, c2, Bool.not_true, Bool.or_self, Bool.false_or, Bool.or_eq_false_iff, decide_eq_false_iff_not]
    omega
   ·have := afr x hx
    unfold abC at this
    obtain ⟨r1, g1, g2⟩ := aqV x.A (by omega) (by omega)
    obtain ⟨r2, g3, g4⟩ := aqV x.B (by omega) (by omega)
    exact ⟨wT.2 ⟨r1, g1, g2⟩, wT.2 ⟨r2, g3, g4⟩⟩
  simp only [jn]
  exact Ok.s ⟨hV, ht⟩
 ·split <;> omega
 ·split <;> omega
end Go.Proofs.YtpmifmdidfgpdaaGreat

/- Plain: the ye of a aC of a aai, by the program. No condition but bT bF stand in each. -/
namespace Go.Proofs.YtpmifmdidfgpdaaGreat
set_option linter.all false
open Go
def ofE (r : Int) (l : aX) : Option bu := if r = l.A then some (bu.mk l.B l.jx l.bY) else if r = l.B then some (bu.mk l.A l.jc l.bY) else none
theorem ajp {t : aB} (hv : Vt t) (r : Int) : t.Links.filterMap (ofE r) = (jD t r).map (o6 t r) := by
 have hne : ∀ l ∈ t.Links, l.A < l.B := fun l hl => hv.lt l hl
 refine tO (r := fun a b : bu => a.bw < b.bw) (fun a => Int.lt_irrefl _) (fun a b c => Int.lt_trans) ?_ ?_ fun x => ?_
 ·rw [List.pairwise_filterMap]
  refine List.Pairwise.imp_of_mem (fun {l m} hl hm hlt x hx y hy => ?_) hv.afj
  have h1 := hne l hl; have h2 := hne m hm
  have h3 := anz.1 hlt
  unfold ofE at hx hy
  split at hx
  ·cases hx
   split at hy
   ·cases hy; simp only; omega
   ·split at hy
    ·cases hy; simp only; omega
    ·cases hy
  ·split at hx
   ·cases hx
    split at hy
    ·cases hy; simp only; omega
    ·split at hy
     ·cases hy; simp only; omega
     ·cases hy
   ·cases hx
 ·exact List.pairwise_map.2 ((wV hv r).imp fun h => by simp only [aem]; exact h)
 ·rw [List.mem_filterMap, List.mem_map]
  constructor
  ·rintro ⟨l, hl, hx⟩
   have h1 := hne l hl
   unfold ofE at hx
   split at hx
   ·cases hx; rename_i e; subst e
    exact ⟨l.B, (jO hv).2 (o5.2 ⟨l, hl, .inl ⟨rfl, rfl⟩⟩), aen hv hl⟩
   ·split at hx
    ·cases hx; rename_i e; subst e
     exact ⟨l.A, (jO hv).2 (o5.2 ⟨l, hl, .inr ⟨rfl, rfl⟩⟩), aeo hv hl⟩
    ·cases hx
  ·rintro ⟨n, hn, rfl⟩
   obtain ⟨l, hl, hc⟩ := o5.1 ((jO hv).1 hn)
   have h1 := hne l hl
   refine ⟨l, hl, ?_⟩
   unfold ofE
   rcases hc with ⟨rfl, rfl⟩ | ⟨rfl, rfl⟩
   ·rw [if_pos rfl, aen hv hl]
   ·rw [if_neg (by omega), if_pos rfl, aeo hv hl]
end Go.Proofs.YtpmifmdidfgpdaaGreat

/- Plain: aaY: aeF wS, nodes, checks and own wk, by both. No condition but bT bF stand in each. -/
namespace Go.Proofs.YtpmifmdidfgpdaaGreat
set_option linter.all false
open Go
theorem sZ {α γ β : Type} (f : α → γ) {K : List γ → Option β} : ∀ (l : List α) (j : Nat) (s : List γ), s.length + l.length ≤ 1000000 → bM l j (fun (_ : Int) (e : α) (Z : List γ → Option β) (o : List γ) => bnd (cM o ([f e] : List γ)) fun l => Z l) K s = K (s ++ l.map f)
 | [], _, s, _ => by simp [bM]
 | x :: r, j, s, h => by
  simp only [bM]
  simp only [List.length_cons] at h
  rw [dZ (by simp; omega), aO, sZ f r (j + 1) _ (by simp; omega)]
  simp
def ij (f : aA) : aB := aB.mk (f.aG.map fun n => aZ.mk n.aj n.bh) f.Links
def SmF (f : aA) : Prop := f.Links.length ≤ 100000 ∧ f.aG.length ≤ 100000
theorem qu {f : aA} (h : SmF f) : ef f = some (ij f) := by
 unfold ef
 rw [sZ (fun n : aU => aZ.mk n.aj n.bh) f.aG 0 [] (by have := h.2; simp; omega)]
 rfl
theorem aep {l : List aX} (h : l.length ≤ 100000) : dg l = some l := by
 unfold dg dN
 rw [dZ (by simp; omega)]; rfl
theorem yg {f : aA} (h : SmF f) : dD f = some (ij f) := by
 unfold dD
 rw [aep h.1, aO, sZ (fun n : aU => aZ.mk n.aj n.bh) f.aG 0 [] (by have := h.2; simp; omega)]
 rfl
/-! the place of a node -/
def tu (r : Int) : List aU → Nat → Int
 | [], _ => -1
 | x :: l, j => bif decide (x.aj = r) then (j : Int) else tu r l (j + 1)
theorem yh {B : Int → aU → (Unit → Option Int) → Unit → Option Int} {K : Unit → Option Int} {r : Int} (hB : ∀ j x Z s, B j x Z s = bif decide (x.aj = r) then some j else Z s) (hK : ∀ s, K s = some (-1)) : ∀ (l : List aU) (j : Nat) (s : Unit), bM l j B K s = some (tu r l j)
 | [], _, s => hK s
 | x :: l, j, s => by
  simp only [bM, hB, tu, yh hB hK l (j + 1) s]
  cases decide (x.aj = r) <;> rfl
def kg (f : aA) (r : Int) : Int := tu r f.aG 0
theorem ny (f : aA) (r : Int) : gw f r = some (kg f r) := by
 unfold gw
 exact yh (fun j x Z s => rfl) (fun s => rfl) f.aG 0 ()
theorem y6 (f : aA) (r : Int) : fc f r = some (kg f r, decide (0 ≤ kg f r)) := by
 unfold fc eA
 rw [yh (r := r) (fun j x Z s => by simp only [mH, aO]) (fun s => rfl)]
 rfl
theorem aeq (r : Int) : ∀ (l p : List aU), (tu r l p.length = -1 ∧ ∀ x ∈ l, x.aj ≠ r) ∨ ∃ a x b, l = a ++ x :: b ∧ tu r l p.length = ((p.length + a.length : Nat) : Int) ∧ x.aj = r
 | [], _ => .inl ⟨rfl, by simp⟩
 | x :: l, p => by
  by_cases h : x.aj = r
  ·exact .inr ⟨[], x, l, rfl, by simp [tu, h], h⟩
  ·have := aeq r l (p ++ [x])
   simp only [List.length_append, List.length_cons, List.length_nil] at this
   rcases this with ⟨h1, h2⟩ | ⟨a, y, b, h1, h2, h3⟩
   ·exact .inl ⟨by simp only [tu, h, decide_false, cond_false]; exact h1, fun z hz => by
     rcases List.mem_cons.1 hz with rfl | hz
     ·exact h
     ·exact h2 z hz⟩
   ·exact .inr ⟨x :: a, y, b, by rw [h1]; rfl, by simp only [tu, h, decide_false, cond_false]; rw [h2]; simp; omega, h3⟩
theorem rK (f : aA) (r : Int) : (kg f r = -1 ∧ ∀ x ∈ f.aG, x.aj ≠ r) ∨ ∃ a x b, f.aG = a ++ x :: b ∧ kg f r = (a.length : Int) ∧ x.aj = r := by
 have := aeq r f.aG []
 simpa [kg] using this
/-! the check -/
def ou (l : List bx) : Bool := decide ((l.length : Int) ≤ 8) && (l.all kJ && sv l)
def okN (n : aU) : Bool := decide (0 ≤ n.Seq) && (decide (n.Seq ≤ 1000000) && (ou n.Claims && decide (dbC n.Database = 0)))
def okM (f : aA) (m : bP) : Bool := decide (0 ≤ kg f m.kT) && (decide (0 ≤ kg f m.To) && (!decide (m.kT = m.To) && decide (dbC m.Database = 0)))
def jP (f : aA) : Bool := decide (mA (ij f) = 0) && (!decide ((400:Int) < (f.aF.length:Int)) && (f.aG.all okN && f.aF.all (okM f)))
theorem uS {α β : Type} {B : Int → α → (Unit → Option β) → Unit → Option β} {K : Unit → Option β} (p : α → Bool) (a : Option β) (l : List α) (hB : ∀ j, ∀ x ∈ l, ∀ Z, B j x Z () = bif p x then Z () else a) : ∀ (j : Nat), bM l j B K () = bif l.all p then K () else a := by
 induction l with
 | nil => intro j; rfl
 | cons x r ih =>
  intro j
  simp only [bM]
  rw [hB _ x (by simp), ih (fun j y hy => hB j y (by simp [hy])), List.all_cons]
  cases p x <;> rfl
theorem ov {f : aA} (h : SmF f) : gx f = some (jP f) := by
 unfold gx jP
 simp only [jn, qu h, sU, aO]
 by_cases h1 : mA (ij f) = 0
 ·by_cases h2 : (400:Int) < (f.aF.length:Int)
  ·simp [h1, h2]
  ·simp only [h1, h2, decide_true, decide_false, Bool.not_true, Bool.not_false, cond_false, Bool.true_and]
   rw [uS okN (some false) f.aG]
   ·rw [uS (okM f) (some false) f.aF]
    ·cases f.aG.all okN <;> cases f.aF.all (okM f) <;> rfl
    ·intro j x hx Z
     simp only [ny, vz, aO, okM]
     by_cases a1 : kg f x.kT < 0
     ·simp [a1, show ¬ 0 ≤ kg f x.kT by omega]
     by_cases a2 : kg f x.To < 0
     ·simp [a1, a2, show ¬ 0 ≤ kg f x.To by omega]
     by_cases a3 : x.kT = x.To
     ·simp [a1, a2, a3]
     ·cases h4 : decide (dbC x.Database = 0) <;> simp [a1, a2, a3, h4, show 0 ≤ kg f x.kT by omega, show 0 ≤ kg f x.To by omega]
   ·intro j x hx Z
    simp only [yd, vz, aO, okN, ou]
    by_cases a1 : x.Seq < 0
    ·simp [a1, show ¬ 0 ≤ x.Seq by omega]
    by_cases a2 : 1000000 < x.Seq
    ·simp [a1, a2, show ¬ x.Seq ≤ 1000000 by omega]
    ·simp only [a1, a2, decide_false, cond_false, show 0 ≤ x.Seq by omega, show x.Seq ≤ 1000000 by omega, decide_true, Bool.true_and]
     cases (decide ((x.Claims.length : Int) ≤ 8) && (x.Claims.all kJ && sv x.Claims)) <;> cases h4 : decide (dbC x.Database = 0) <;> simp
 ·simp [h1]
theorem tX {f : aA} {n : aU} (hn : n ∈ f.aG) : n.aj ∈ ids (ij f) := by
 unfold ids ij
 simp only [List.map_map]
 exact List.mem_map.2 ⟨n, hn, rfl⟩
theorem adQ {t : aB} (hv : Vt t) {r : Int} (hr : r ∈ ids t) : inB r 1 99 = true := by
 obtain ⟨x, hx, rfl⟩ := List.mem_map.1 hr
 have := hv.idr x hx
 simp [inB]; omega
theorem adR {f : aA} (h : SmF f) : n9 f = some (bif jP f then 0 else 1) := by
 unfold n9
 rw [ov h, aO]
 cases jP f <;> rfl
theorem sB {f : aA} (h : SmF f) : ee f = some (bif jP f then 0 else 1) := by
 unfold ee jP
 simp only [jn, yg h, x5, aO]
 by_cases h1 : mA (ij f) = 0
 ·have hv := oe.1 h1
  by_cases h2 : (400:Int) < (f.aF.length:Int)
  ·simp [h1, h2]
  ·simp only [h1, h2, decide_true, decide_false, Bool.not_true, Bool.not_false, cond_false, Bool.true_and]
   rw [uS okN (some 1) f.aG]
   ·rw [uS (okM f) (some 1) f.aF]
    ·cases f.aG.all okN <;> cases f.aF.all (okM f) <;> rfl
    ·intro j x hx Z
     simp only [y6, aal, aO, okM]
     cases a1 : decide (0 ≤ kg f x.kT) <;> cases a2 : decide (0 ≤ kg f x.To) <;> cases a3 : decide (x.kT = x.To) <;> cases h4 : decide (dbC x.Database = 0) <;> simp
   ·intro j x hx Z
    have hr := adQ hv (tX hx)
    have hval : cE (ak.mk x.aj 1 false [] x.Claims) = ou x.Claims := by
     simp only [cE, hr, ou, List.all_nil, uO, fH, List.length_nil, Bool.true_and, Bool.and_true]
     rfl
    simp only [sx, hval, aal, aO, okN]
    by_cases a1 : x.Seq < 0
    ·simp [a1, show ¬ 0 ≤ x.Seq by omega]
    by_cases a2 : 1000000 < x.Seq
    ·simp [a1, a2, show ¬ x.Seq ≤ 1000000 by omega]
    ·simp only [a1, a2, decide_false, cond_false, show 0 ≤ x.Seq by omega, show x.Seq ≤ 1000000 by omega, decide_true, Bool.true_and]
     cases ou x.Claims <;> cases h4 : decide (dbC x.Database = 0) <;> simp
 ·simp [h1]
/-! a valid flood -/
structure Vf (f : aA) : Prop where
 t : Vt (ij f)
 m : f.aF.length ≤ 400
 n : ∀ n ∈ f.aG, (0 ≤ n.Seq ∧ n.Seq ≤ 1000000) ∧ ou n.Claims = true ∧ Vd n.Database
 g : ∀ m ∈ f.aF, 0 ≤ kg f m.kT ∧ 0 ≤ kg f m.To ∧ m.kT ≠ m.To ∧ Vd m.Database
theorem rL {f : aA} : jP f = true ↔ Vf f := by
 unfold jP
 simp only [Bool.and_eq_true, decide_eq_true_eq, Bool.not_eq_true', decide_eq_false_iff_not, List.all_eq_true, okN, okM]
 constructor
 ·rintro ⟨h1, h2, h3, h4⟩
  exact ⟨oe.1 h1, by omega, fun n hn => by have := h3 n hn; exact ⟨⟨this.1, this.2.1⟩, this.2.2.1, sX.1 this.2.2.2⟩, fun m hm => by have := h4 m hm; exact ⟨this.1, this.2.1, this.2.2.1, sX.1 this.2.2.2⟩⟩
 ·intro h
  exact ⟨oe.2 h.t, by have := h.m; omega, fun n hn => by have := h.n n hn; exact ⟨this.1.1, this.1.2, this.2.1, sX.2 this.2.2⟩, fun m hm => by have := h.g m hm; exact ⟨this.1, this.2.1, this.2.2.1, sX.2 this.2.2.2⟩⟩
theorem Vf.len {f : aA} (h : Vf f) : f.aG.length ≤ 24 := by have := h.t.nr; simpa [ij] using this
theorem Vf.asc {f : aA} (h : Vf f) : f.aG.Pairwise fun a b => a.aj < b.aj := by
 have := h.t.asc
 simp only [ij, List.pairwise_map] at this
 exact this
theorem Vf.idx {f : aA} (h : Vf f) {a b : List aU} {n : aU} (hL : f.aG = a ++ n :: b) : kg f n.aj = (a.length : Int) := by
 have hp := h.asc
 rw [hL] at hp
 rcases rK f n.aj with ⟨_, h2⟩ | ⟨a', x, b', h1, h2, h3⟩
 ·exact absurd rfl (h2 n (by rw [hL]; simp))
 ·rw [h2]
  have hl : a'.length = a.length := by
   have q1 := List.pairwise_iff_getElem.1 h.asc
   have e1 : ∀ (h : a.length < f.aG.length), f.aG[a.length] = n := fun h => by simp [hL]
   have e2 : ∀ (h : a'.length < f.aG.length), f.aG[a'.length] = x := fun h => by simp [h1]
   have l1 : a.length < f.aG.length := by rw [hL]; simp
   have l2 : a'.length < f.aG.length := by rw [h1]; simp
   rcases Nat.lt_trichotomy a.length a'.length with q | q | q
   ·have := q1 _ _ l1 l2 q; rw [e1, e2] at this; omega
   ·exact q.symm
   ·have := q1 _ _ l2 l1 q; rw [e1, e2] at this; omega
  rw [hl]
/-! own wk -/
theorem au9 {t : aB} (hv : Vt t) {r : Int} (hr : r ∈ ids t) (seq : Int) {cl : List bx} (hc : cl.length ≤ 100000) : pJ t r seq cl = some (bif cE (ofA t r seq cl) then (ofA t r seq cl, 0) else (noA, 2)) := by
 have hl24 := hv.nr; have hl60 := hv.nl
 obtain ⟨b, hb1, hb2⟩ := afk t r (by omega)
 have hcap : b = afq t r := some_inj (hb2.symm.trans (adt hv r))
 subst hcap
 refine Ok.eq ?_
 unfold pJ
 simp only [x5, aei t r (show t.aK.length ≤ 1000000 by omega), hb1, aO, oe.2 hv, sj.1 hr, decide_true, Bool.not_true, cond_false, Bool.true_and]
 rw [dZ (by simp; omega), aO]
 refine Ok.pq (fun P (m : List bu) => m = P.filterMap (ofE r) ∧ m.length ≤ P.length) ?_ _ ⟨rfl, by simp⟩ ?_
 ·rintro P x rest m Z hL ⟨hm, hml⟩ hZ
  have hP : P.length < t.Links.length := by rw [hL]; simp
  simp only [jn]
  refine Ok.cs (fun h => ?_) fun h => ?_
  ·have h : r = x.A := by simpa using h
   rw [dZ (by simp; omega), aO]
   refine hZ _ ⟨?_, by simp; omega⟩
   rw [List.filterMap_append, hm]; simp [ofE, h]
  ·have h : r ≠ x.A := by simpa using h
   refine Ok.cs (fun h2 => ?_) fun h2 => ?_
   ·have h2 : r = x.B := by simpa using h2
    rw [dZ (by simp; omega), aO]
    refine hZ _ ⟨?_, by simp; omega⟩
    have e : ofE r x = some (bu.mk x.A x.jc x.bY) := by unfold ofE; rw [if_neg h, if_pos h2]
    rw [List.filterMap_append, hm, List.filterMap_cons, e]; rfl
   ·have h2 : r ≠ x.B := by simpa using h2
    refine hZ _ ⟨?_, by simp; omega⟩
    have e : ofE r x = none := by unfold ofE; rw [if_neg h, if_neg h2]
    rw [List.filterMap_append, hm, List.filterMap_cons, e]; simp
 ·rintro m ⟨hm, _⟩
  rw [ajp hv] at hm
  subst hm
  rw [sx, aO]
  show Ok (bif !cE (ofA t r seq cl) then _ else _) _
  cases cE (ofA t r seq cl)
  ·exact Ok.s rfl
  ·exact Ok.s rfl
def tw (f : aA) (n : aU) (seq : Int) : ak × Bool := bif inB seq 1 1000000 then (ofA (ij f) n.aj seq n.Claims, true) else (noA, false)
theorem yj {f : aA} (h : Vf f) {n : aU} (hn : n ∈ f.aG) (seq : Int) : cE (ofA (ij f) n.aj seq n.Claims) = inB seq 1 1000000 := by
 rw [agy h.t (tX hn)]
 have := (h.n n hn).2.1
 unfold ou at this
 rw [this, Bool.and_true]
theorem Vf.sm {f : aA} (h : Vf f) : SmF f := by have h1 := h.len; have h2 := h.t.nl; exact ⟨by have : f.Links.length ≤ 60 := h2; omega, by omega⟩
theorem ab7 {f : aA} (h : Vf f) {a b : List aU} {n : aU} (hL : f.aG = a ++ n :: b) (seq : Int) : oq f (a.length : Int) seq = some (tw f n seq) := by
 have hn : n ∈ f.aG := by rw [hL]; simp
 unfold oq
 rw [qu h.sm, aO, hL, iP, aO, ajo h.t (tX hn), yj h hn, aO]
 unfold tw
 cases inB seq 1 1000000 <;> rfl
theorem aaZ {l : List bx} (h : ou l = true) : l.length ≤ 100000 := by
 simp only [ou, Bool.and_eq_true, decide_eq_true_eq] at h; omega
theorem adu {f : aA} (h : Vf f) {n : aU} (hn : n ∈ f.aG) : iA f n = some (bif decide (n.Seq = 0) then (noA, false) else tw f n n.Seq) := by
 unfold iA
 cases hs : decide (n.Seq = 0)
 ·simp only [cond_false]
  rw [yg h.sm, aO, au9 h.t (tX hn) n.Seq (aaZ (h.n n hn).2.1), yj h hn, aO]
  unfold tw
  cases inB n.Seq 1 1000000 <;> rfl
 ·rfl
def adv (f : aA) (r : Int) : ak × Bool := bif jP f then (bif decide (kg f r < 0) then (noA, false) else match f.aG[(kg f r).toNat]? with | some n => (bif decide (n.Seq = 0) then (noA, false) else tw f n n.Seq) | none => (noA, false)) else (noA, false)
theorem aar {f : aA} (h : SmF f) (r : Int) : ni f r = some (adv f r) ∧ ot f r = some (adv f r) := by
 unfold ni ot adv
 simp only [jn, y6, sB h, ny, ov h, aO]
 cases hv : jP f
 ·exact ⟨rfl, rfl⟩
 ·have hf := rL.1 hv
  rcases rK f r with ⟨h1, _⟩ | ⟨a, n, b, h1, h2, h3⟩
  ·rw [h1]; exact ⟨rfl, rfl⟩
  ·have hn : n ∈ f.aG := by rw [h1]; simp
   have e1 : elO f.aG (a.length : Int) = some n := by rw [h1]; exact iP a n b
   have e2 : f.aG[a.length]? = some n := by rw [h1]; simp
   have e3 : decide ((a.length : Int) < 0) = false := by simp
   have e4 : decide (0 ≤ (a.length : Int)) = true := by simp
   simp only [h2, e1, e3, e4, Int.toNat_natCast, e2, adu hf hn, ab7 hf h1, aO, cond_true, cond_false, decide_true, Bool.not_true]
   cases decide (n.Seq = 0) <;> simp [noA]
/-! equality -/
theorem abE {α : Type} (e : α → α → Bool) (he : ∀ a b, e a b = true ↔ a = b) : ∀ (l m : List α), (decide ((l.length : Int) = m.length) && (l.zip m).all (fun p => e p.1 p.2)) = true ↔ l = m := by
 intro l
 induction l with
 | nil => intro m; cases m <;> simp; omega
 | cons x l ih =>
  intro m
  cases m with
  | nil => simp; omega
  | cons y m =>
   have := ih m
   simp only [Bool.and_eq_true, decide_eq_true_eq] at this
   simp only [List.length_cons, List.zip_cons_cons, List.all_cons, Bool.and_eq_true, decide_eq_true_eq, List.cons.injEq, he, ← this]
   constructor
   ·rintro ⟨h1, h2, h3⟩; exact ⟨h2, by omega, h3⟩
   ·rintro ⟨h2, h1, h3⟩; exact ⟨by omega, h2, h3⟩
theorem adw (a b : bu) : hU a b = true ↔ a = b := by cases a; cases b; simp [hU]
theorem adx (a b : bx) : fO a b = true ↔ a = b := by cases a; cases b; simp [fO]
theorem agA (a b : ak) : mJ a b = true ↔ a = b := by
 obtain ⟨a1, a2, a3, a4, a5⟩ := a
 obtain ⟨b1, b2, b3, b4, b5⟩ := b
 have h1 := abE hU adw a4 b4
 have h2 := abE fO adx a5 b5
 simp only [mJ, aam, aan, Bool.and_eq_true] at h1 h2 ⊢
 rw [h1, h2]
 simp only [decide_eq_true_eq, beq_iff_eq, ak.mk.injEq]
theorem ab8 (a b : aH) : mK a b = true ↔ a = b := by
 obtain ⟨a⟩ := a
 obtain ⟨b⟩ := b
 have := abE mJ agA a b
 simp only [mK, aH.mk.injEq]
 exact this
theorem afs (a b : aH) : mK a b = mK b a := by
 rw [Bool.eq_iff_iff, ab8, ab8]; exact ⟨Eq.symm, Eq.symm⟩
end Go.Proofs.YtpmifmdidfgpdaaGreat

/- Plain: settled aaY, by both; the aaY of the tape. No condition but bT bF stand in each. -/
namespace Go.Proofs.YtpmifmdidfgpdaaGreat
set_option linter.all false
open Go
/-- a loop bF looks at each element and at bT ahead of it -/
def yl {α : Type} (P : List α → α → Bool) : List α → List α → Bool
 | _, [] => true
 | p, x :: r => P p x && yl P (p ++ [x]) r
theorem ab9 {α β : Type} {B : Int → α → (Unit → Option β) → Unit → Option β} {K : Unit → Option β} {L : List α} (P : List α → α → Bool) (a : Option β) (hB : ∀ (p : List α) x r Z, L = p ++ x :: r → B (p.length : Int) x Z () = bif P p x then Z () else a) : bM L 0 B K () = bif yl P [] L then K () else a := by
 have key : ∀ (l p : List α), L = p ++ l → bM l p.length B K () = bif yl P p l then K () else a := by
  intro l
  induction l with
  | nil => intro p _; rfl
  | cons x r ih =>
   intro p h
   simp only [bM, yl]
   rw [hB p x r _ h]
   have := ih (p ++ [x]) (by simp [h])
   rw [List.length_append] at this
   have e : bM r (p.length + 1) B K () = bif yl P (p ++ [x]) r then K () else a := this
   rw [e]
   cases P p x <;> rfl
 exact key L [] rfl
open Classical in
theorem agB (t : aB) (a b : Int) : sr t a b = sr t b a := by
 unfold sr
 have : (decide (Cn t [] a b) : Bool) = decide (Cn t [] b a) := by
  by_cases h : Cn t [] a b
  ·simp [h, h.symm]
  ·have : ¬ Cn t [] b a := fun h2 => h h2.symm
   simp [h, this]
 simp only [Bool.and_assoc]
 rw [this]
 cases hasB t a <;> cases hasB t b <;> rfl
theorem anE {f : aA} (h : Vf f) {a b : List aU} {n : aU} (hL : f.aG = a ++ n :: b) : adv f n.aj = (bif decide (n.Seq = 0) then (noA, false) else tw f n n.Seq) := by
 unfold adv
 have e2 : f.aG[a.length]? = some n := by rw [hL]; simp
 have e3 : decide ((a.length : Int) < 0) = false := by simp
 rw [rL.2 h, h.idx hL, Int.toNat_natCast, e2, e3]; rfl
noncomputable def aas (f : aA) (p : List aU) (n : aU) : Bool := (bif decide (n.Seq = 0) then (noA, false) else tw f n n.Seq).2 && ((gf n.Database n.aj).2 && (mJ (bif decide (n.Seq = 0) then (noA, false) else tw f n n.Seq).1 (gf n.Database n.aj).1 && p.all (fun e => !sr (ij f) e.aj n.aj || mK e.Database n.Database)))
noncomputable def aft (f : aA) : Bool := jP f && (!decide ((0:Int) < (f.aF.length:Int)) && yl (aas f) [] f.aG)
theorem afu {f : aA} (h : SmF f) : iB f = some (aft f) := by
 unfold iB aft
 simp only [jn, sB h, yg h, aO]
 cases hv : jP f
 ·rfl
 ·have hf := rL.1 hv
  simp only [cond_true, decide_true, Bool.not_true, cond_false, Bool.true_and]
  have hnr : (ij f).aK.length ≤ 1000000 := by have := hf.t.nr; omega
  cases decide ((0:Int) < (f.aF.length:Int))
  ·simp only [cond_false, Bool.not_false, Bool.true_and]
   rw [ab9 (aas f) (some false)]
   ·cases yl (aas f) [] f.aG <;> rfl
   ·intro p n r Z hL
    have hn : n ∈ f.aG := by rw [hL]; simp
    have hlen := hf.len
    have hp : p.length < f.aG.length := by rw [hL]; simp
    have hsm := (hf.n n hn).2.2.sm
    simp only [adu hf hn, anw hsm, aO, aej]
    have hsl : mO f.aG 0 (p.length : Int) = some p := by
     unfold mO
     rw [if_pos ⟨by omega, by omega, by omega⟩, hL]
     simp
    unfold aas
    rw [hsl, aO]
    have hin : (bM p 0 (fun (j2 : Int) (e2 : aU) (Z2 : Unit → Option Bool) (sg : Unit) => bnd (gE (ij f) e2.aj n.aj) fun (b9 : Bool) => (bif b9 then bnd (jU e2.Database n.Database) fun (ct : Bool) => (bif !ct then some false else Z2 ()) else (bif false then some false else Z2 ()))) (fun (sg : Unit) => Z ()) ()) =
      bif p.all (fun e => !sr (ij f) e.aj n.aj || mK e.Database n.Database) then Z () else some false := by
     refine uS _ (some false) p (fun j x hx W => ?_) 0
     rw [aci _ _ _ hnr, aO, anv, aO]
     cases sr (ij f) x.aj n.aj <;> cases mK x.Database n.Database <;> rfl
    generalize (bif decide (n.Seq = 0) then (noA, false) else tw f n n.Seq) = o
    generalize gf n.Database n.aj = q
    cases o.2
    ·rfl
    ·cases q.2
     ·rfl
     ·simp only [Bool.not_true, cond_false, Bool.true_and]
      cases mJ o.1 q.1
      ·rfl
      ·simp only [Bool.not_true, cond_false, Bool.true_and]
       exact hin
  ·rfl
theorem ack {f : aA} (h : SmF f) : l9 f = some (aft f) := by
 unfold l9 aft
 simp only [jn, ov h, qu h, aO]
 cases hv : jP f
 ·rfl
 ·have hf := rL.1 hv
  simp only [decide_true, Bool.not_true, cond_false, Bool.true_and]
  cases decide ((0:Int) < (f.aF.length:Int))
  ·simp only [cond_false, Bool.not_false, Bool.true_and]
   rw [ab9 (aas f) (some false)]
   ·cases yl (aas f) [] f.aG <;> rfl
   ·intro p n r Z hL
    have hn : n ∈ f.aG := by rw [hL]; simp
    have hlen := hf.len
    have hp : p.length < f.aG.length := by rw [hL]; simp
    simp only [(aar h n.aj).2, anE hf hL, aaT, aO, wX]
    unfold aas
    have ai5 : (chk (decide ((p.length : Int) ≤ 9223372036854775807)) <| eU ((p.length : Int) - (0:Int)).toNat (0:Int) (fun (j2 : Int) (Z2 : Unit → Option Bool) (sg : Unit) => bnd (elO f.aG (j2 : Int)) fun (e_1 : aU) => bnd (gK (ij f) n.aj e_1.aj) fun (b9 : Bool) => (bif b9 then bnd (iL n.Database e_1.Database) fun (ct : Bool) => (bif !ct then some false else Z2 ()) else (bif false then some false else Z2 ()))) (fun (j2 : Int) (sg : Unit) => Z ()) ()) =
      bif p.all (fun e => !sr (ij f) e.aj n.aj || mK e.Database n.Database) then Z () else some false := by
     rw [mb (by simp; omega)]
     have loop : ∀ (q q0 : List aU), p = q0 ++ q → eU q.length (q0.length : Int) (fun (j2 : Int) (Z2 : Unit → Option Bool) (sg : Unit) => bnd (elO f.aG (j2 : Int)) fun (e_1 : aU) => bnd (gK (ij f) n.aj e_1.aj) fun (b9 : Bool) => (bif b9 then bnd (iL n.Database e_1.Database) fun (ct : Bool) => (bif !ct then some false else Z2 ()) else (bif false then some false else Z2 ()))) (fun (j2 : Int) (sg : Unit) => Z ()) () =
       bif q.all (fun e => !sr (ij f) e.aj n.aj || mK e.Database n.Database) then Z () else some false := by
      intro q
      induction q with
      | nil => intro q0 _; rfl
      | cons y q ih =>
       intro q0 hq
       have hy : f.aG = q0 ++ y :: (q ++ n :: r) := by rw [hL, hq]; simp
       simp only [List.length_cons, eU]
       have hel : elO f.aG (q0.length : Int) = some y := by rw [hy]; exact iP _ _ _
       have := ih (q0 ++ [y]) (by simp [hq])
       simp only [List.length_append, List.length_cons, List.length_nil] at this
       rw [hel, aO, ach, aO, wY, aO, agB, afs, List.all_cons]
       have e : ((q0.length : Int) + 1) = ((q0.length + (0 + 1) : Nat) : Int) := by omega
       rw [e, this]
       cases sr (ij f) y.aj n.aj <;> cases mK y.Database n.Database <;> rfl
     have := loop p [] rfl
     simpa using this
    generalize (bif decide (n.Seq = 0) then (noA, false) else tw f n n.Seq) = o
    generalize gf n.Database n.aj = q
    cases o.2
    ·rfl
    ·cases q.2
     ·rfl
     ·simp only [Bool.not_true, cond_false, Bool.true_and]
      cases mJ o.1 q.1
      ·rfl
      ·simp only [Bool.not_true, cond_false, Bool.true_and]
       exact ai5
  ·rfl
/-! the aaY of the tape -/
def SzF (f : aA) (n : Nat) : Prop := f.Links.length ≤ 100 ∧ f.aG.length ≤ n ∧ f.aF.length ≤ n
theorem SzF.sm {f : aA} {n : Nat} (h : SzF f n) (hn : n ≤ 1000) : SmF f := ⟨by have := h.1; omega, by have := h.2.1; omega⟩
theorem agC {t : aP} {most : Int} (h : cH t) : Ok (lN t most) (fun p => cH p.2) := by
 unfold lN
 refine Ok.bnd (fZ h (by omega)) fun p hp => ?_
 refine Ok.cs (fun _ => Ok.s hp.2) fun _ => ?_
 refine Ok.bnd (zp hp.2 (by omega)) fun d hd => ?_
 have hl := hd.1.2.1
 refine Ok.whl (fun s : Int × List ak => (0 ≤ s.1 ∧ s.1 ≤ s.2.length) ∧ s.2.length ≤ 7) (fun s => ((s.2.length : Int) - s.1).toNat) ⟨⟨by simp, by simp⟩, hl⟩ (by simp only; omega) ?_
 rintro ⟨i, m⟩ Z ⟨⟨h0, h1⟩, h2⟩ hZ
 simp only at h0 h1 h2
 refine Ok.cs (fun hc => ?_) fun _ => Ok.s hd.2
 have hc : i < m.length := by simpa using hc
 refine Ok.bnd (kY h0 hc) fun e _ => ?_
 refine Ok.bnd (agd h0 hc) fun l hl => ?_
 rw [cC (by omega) (by omega)]
 exact hZ _ ⟨⟨by simp only; omega, by simp only; omega⟩, by simp only; omega⟩ (by simp only; omega)
theorem aat {t : aP} {nq most : Int} (h : cH t) (hr : 1 ≤ nq ∧ nq ≤ 8) : Ok (iO t nq most) (fun p => SzF p.1 8 ∧ cH p.2) := by
 unfold iO
 refine Ok.bnd (adP h hr) fun g hg => ?_
 obtain ⟨⟨hv, hn, _⟩, ht⟩ := hg
 have hl60 := hv.nl
 refine Ok.pq (fun P (s : List aU × List Int × Int) => s.1.length = P.length ∧ cH (aP.mk s.2.1 s.2.2)) ?_ _ ⟨rfl, ht⟩ ?_
 ·rintro P r rest ⟨m, L, At⟩ Z hL ⟨i1, i2⟩ hZ
  have hP : P.length < g.1.aK.length := by rw [hL]; simp
  simp only at i1 i2
  refine Ok.bnd (kP i2 (by decide) (by decide)) fun p2 h2 => ?_
  refine Ok.bnd (fZ h2.2 (by omega)) fun p3 h3 => ?_
  refine Ok.bnd (agC h3.2) fun p4 h4 => ?_
  refine Ok.eU (fun j (s : List bx × List Int × Int) => (s.1.length : Int) ≤ j ∧ cH (aP.mk s.2.1 s.2.2)) 0 2 ?_ ?_ _ _ _ rfl (by omega) (by omega) ⟨by simp, h4⟩
  ·rintro j ⟨m4, m5, m6⟩ Z2 hj1 hj2 ⟨q1, q2⟩ hZ2
   simp only at q1 q2
   refine Ok.jn (fun s : List Int × Int × List bx => (s.2.2.length : Int) ≤ j + 1 ∧ cH (aP.mk s.1 s.2.1)) (fun s hs => hZ2 _ ⟨hs.1, hs.2⟩) fun J hJ => ?_
   refine Ok.bnd (fZ q2 (by omega)) fun p5 h5 => ?_
   refine Ok.cs (fun _ => ?_) fun _ => hJ _ ⟨by simp only; omega, h5.2⟩
   refine Ok.bnd (mC h5.2) fun p6 h6 => ?_
   refine Ok.bnd (ab1 h6.2) fun p7 h7 => ?_
   refine Ok.bnd (gr (by simp; omega)) fun l hl => hJ _ ⟨by simp only; rw [hl.2]; simp; omega, h7.2⟩
  ·rintro j ⟨m4, m5, m6⟩ hj1 hj2 ⟨q1, q2⟩
   refine Ok.bnd (gr (by simp; omega)) fun l hl => hZ _ ⟨by simp only; rw [hl.2]; simp; omega, q2⟩
 ·rintro ⟨m, L, At⟩ ⟨i1, i2⟩
  simp only at i1 i2
  refine Ok.bnd (fZ i2 (by omega)) fun p8 h8 => ?_
  have h84 := h8.1.2.1 (by omega)
  refine Ok.whl (fun s : Int × List bP × List Int × Int => ((s.2.1.length : Int) + s.1 ≤ 4 ∧ s.1 ≤ 4 ∧ (0 ≤ s.1 ∨ s.1 ≤ 0)) ∧ s.2.1.length ≤ 8 ∧ cH (aP.mk s.2.2.1 s.2.2.2)) (fun s => s.1.toNat) ⟨⟨by simp; omega, by simp only; omega, by simp only; omega⟩, by simp, h8.2⟩ (by simp only; omega) ?_
  rintro ⟨i, m10, m11, m12⟩ Z ⟨⟨q1, q1', _⟩, q2, q3⟩ hZ
  simp only at q1 q1' q2 q3
  refine Ok.cs (fun hc => ?_) fun _ => Ok.s ⟨⟨by show g.1.Links.length ≤ _; omega, by show m.length ≤ _; omega, q2⟩, q3⟩
  simp only [Bool.and_eq_true, decide_eq_true_eq] at hc
  refine Ok.bnd (fZ q3 (by omega)) fun p9 h9 => ?_
  have h9n := h9.1.2.1 (by omega)
  have h90 := h9.1.1
  refine Ok.bnd (mC h9.2) fun p10 h10 => ?_
  rw [cC (n := (g.1.aK.length : Int) - 1) (by omega) (by omega)] at h10
  have h10 := And.intro (h10.1 (by omega) (by omega) (by omega)) h10.2
  refine Ok.bnd (agj (by omega)) fun p11 h11 => ?_
  have h11n := h11.2.1 (by omega)
  refine Ok.bnd (kY h90 h9n) fun e1 _ => ?_
  refine Ok.bnd (kY h11.1 h11n) fun e2 _ => ?_
  refine Ok.bnd (agC h10.2) fun p12 h12 => ?_
  refine Ok.bnd (gr (by simp; omega)) fun l hl => ?_
  rw [cC (by omega) (by omega)]
  have hl2 := hl.2
  simp only [List.length_cons, List.length_nil] at hl2
  exact hZ _ ⟨⟨by simp only; omega, by simp only; omega, by simp only; omega⟩, by simp only; omega, h12⟩ (by simp only; omega)
theorem ady {t : aP} {f : aA} {n : Int} (h : cH t) (hf : SzF f 8) (hn : n ≤ 9223372036854775807) : Ok (lP t f n) (fun p => (SmF p.1 ∧ p.1.aF.length ≤ 9 ∧ p.1.aG.length ≤ 9) ∧ cH p.2) := by
 obtain ⟨f1, f2, f3⟩ := hf
 unfold lP
 refine Ok.bnd (wh h hn) fun p1 h1 => ?_
 refine Ok.cs (fun _ => Ok.s ⟨⟨⟨by show f.Links.length ≤ _; omega, by show f.aG.length ≤ _; omega⟩, by show f.aF.length ≤ _; omega, by show f.aG.length ≤ _; omega⟩, h1⟩) fun _ => ?_
 refine Ok.jn (fun s : List Int × Int × List aX × List aU × List bP => (s.2.2.1.length ≤ 101 ∧ s.2.2.2.1.length ≤ 9 ∧ s.2.2.2.2.length ≤ 9) ∧ cH (aP.mk s.1 s.2.1)) (fun s hs => ?_) fun J hJ => ?_
 ·obtain ⟨m1, m2, m3, m4, m5⟩ := s
  obtain ⟨⟨q1, q2, q3⟩, q4⟩ := hs
  simp only at q1 q2 q3 q4
  exact Ok.s ⟨⟨⟨by show m3.length ≤ _; omega, by show m4.length ≤ _; omega⟩, q3, q2⟩, q4⟩
 refine Ok.bnd (fZ h1 (by omega)) fun p2 h2 => ?_
 have whole : ∀ {α : Type} (l : List α), Ok (mO l 0 (l.length : Int)) (fun m => m.length = l.length) := fun l => (we ⟨by omega, by omega, by omega⟩).mono fun m hm => by have := hm.2; omega
 refine Ok.cs (fun _ => ?_) fun _ => ?_
 ·refine Ok.bnd (whole f.Links) fun l1 e1 => ?_
  exact Ok.bnd (gr (by simp; omega)) fun l2 e2 => hJ _ ⟨⟨by simp only; rw [e2.2]; simp; omega, by simp only; omega, by simp only; omega⟩, h2.2⟩
 refine Ok.cs (fun _ => ?_) fun _ => ?_
 ·refine Ok.bnd (whole f.aG) fun l1 e1 => ?_
  refine Ok.bnd (fZ h2.2 (by omega)) fun p3 h3 => Ok.bnd (yT h3.2) fun p4 h4 => ?_
  exact Ok.bnd (gr (by simp; omega)) fun l2 e2 => hJ _ ⟨⟨by simp only; omega, by simp only; rw [e2.2]; simp; omega, by simp only; omega⟩, h4⟩
 refine Ok.cs (fun _ => ?_) fun _ => ?_
 ·refine Ok.bnd (whole f.aF) fun l1 e1 => ?_
  refine Ok.bnd (fZ h2.2 (by omega)) fun p3 h3 => Ok.bnd (fZ h3.2 (by omega)) fun p4 h4 => ?_
  exact Ok.bnd (gr (by simp; omega)) fun l2 e2 => hJ _ ⟨⟨by simp only; omega, by simp only; omega, by simp only; rw [e2.2]; simp; omega⟩, h4.2⟩
 refine Ok.cs (fun _ => ?_) fun _ => ?_
 ·refine Ok.bnd (whole f.aG) fun l1 e1 => ?_
  refine Ok.bnd (zp h2.2 (by omega)) fun p3 h3 => ?_
  exact Ok.bnd (gr (by simp; omega)) fun l2 e2 => hJ _ ⟨⟨by simp only; omega, by simp only; rw [e2.2]; simp; omega, by simp only; omega⟩, h3.2⟩
 ·refine Ok.bnd (whole f.aG) fun l1 e1 => ?_
  refine Ok.bnd (fZ h2.2 (by omega)) fun p3 h3 => Ok.bnd (kP h3.2 (by decide) (by decide)) fun p4 h4 => ?_
  exact Ok.bnd (gr (by simp; omega)) fun l2 e2 => hJ _ ⟨⟨by simp only; omega, by simp only; rw [e2.2]; simp; omega, by simp only; omega⟩, h4.2⟩
end Go.Proofs.YtpmifmdidfgpdaaGreat

/- Plain: nodes issue wk, send and deliver, by both. No condition but bT bF stand in each. -/
namespace Go.Proofs.YtpmifmdidfgpdaaGreat
set_option linter.all false
open Go
theorem abG {d : aH} (hd : SmD d) : eC d = some d := by
 refine Ok.eq ?_
 unfold eC
 refine Ok.pq (fun P (m : List ak) => m = P) ?_ _ rfl (fun m hm => Ok.s (by rw [hm]))
 rintro P x r m Z hL rfl hZ
 have hx : x ∈ d.ay := by rw [hL]; simp
 have hl : m.length < d.ay.length := by rw [hL]; simp
 have := hd.1
 rw [agp (hd.2 x hx).1, aO, adk (hd.2 x hx).2, aO, dZ (by simp; omega), aO]
 exact hZ _ rfl
theorem ajq {f : aA} (h : Vf f) : ig f = some f := by
 refine Ok.eq ?_
 unfold ig
 have hs := h.sm
 rw [aep hs.1, aO]
 refine Ok.pq (fun P (m : List aU) => m = P) ?_ _ rfl ?_
 ·rintro P x r m Z hL rfl hZ
  have hx : x ∈ f.aG := by rw [hL]; simp
  have hl : m.length < f.aG.length := by rw [hL]; simp
  have h1 := hs.2
  have hn := h.n x hx
  rw [adk (aaZ hn.2.1), aO, abG hn.2.2.sm, aO, dZ (by simp; omega), aO]
  exact hZ _ rfl
 ·rintro m rfl
  refine Ok.pq (fun P (m : List bP) => m = P) ?_ _ rfl (fun m hm => Ok.s (by rw [hm]))
  rintro P x r m Z hL rfl hZ
  have hx : x ∈ f.aF := by rw [hL]; simp
  have hl : m.length < f.aF.length := by rw [hL]; simp
  have h1 := h.m
  rw [abG (h.g x hx).2.2.2.sm, aO, dZ (by simp; omega), aO]
  exact hZ _ rfl
/-! a node in place of adZ one -/
def lE (f : aA) (a : List aU) (n : aU) (b : List aU) : aA := aA.mk f.Links (a ++ n :: b) f.aF
theorem vi {f : aA} {a b : List aU} {n n' : aU} (hL : f.aG = a ++ n :: b) (hr : n'.aj = n.aj) (hc : n'.bh = n.bh) : ij (lE f a n' b) = ij f := by
 unfold ij lE
 rw [hL]; simp [hr, hc]
theorem adz (r : Int) : ∀ (l m : List aU) (j : Nat), l.map (·.aj) = m.map (·.aj) → tu r l j = tu r m j
 | [], [], _, _ => rfl
 | [], _ :: _, _, h => by simp at h
 | _ :: _, [], _, h => by simp at h
 | x :: l, y :: m, j, h => by
  simp only [List.map_cons, List.cons.injEq] at h
  simp only [tu, h.1, adz r l m (j + 1) h.2]
theorem adA {f : aA} {a b : List aU} {n n' : aU} (hL : f.aG = a ++ n :: b) (hr : n'.aj = n.aj) (r : Int) : kg (lE f a n' b) r = kg f r := by
 unfold kg lE
 exact adz r _ _ 0 (by rw [hL]; simp [hr])
theorem Vf.lE {f : aA} (h : Vf f) {a b : List aU} {n n' : aU} (hL : f.aG = a ++ n :: b) (hr : n'.aj = n.aj) (hc : n'.bh = n.bh) (hn : (0 ≤ n'.Seq ∧ n'.Seq ≤ 1000000) ∧ ou n'.Claims = true ∧ Vd n'.Database) : Vf (lE f a n' b) := by
 refine ⟨by rw [vi hL hr hc]; exact h.t, h.m, fun x hx => ?_, fun m hm => ?_⟩
 ·have hx : x ∈ a ++ n' :: b := hx
  rcases List.mem_append.1 hx with hx | hx
  ·exact h.n x (by rw [hL]; simp [hx])
  ·rcases List.mem_cons.1 hx with rfl | hx
   ·exact hn
   ·exact h.n x (by rw [hL]; simp [hx])
 ·have := h.g m hm
  rw [adA hL hr, adA hL hr]; exact this
theorem acd (f : aA) (a b : List aU) (n n' : aU) : Go.Proofs.YtpmifmdidfgpdaaGreat.lE (Go.Proofs.YtpmifmdidfgpdaaGreat.lE f a n b) a n' b = Go.Proofs.YtpmifmdidfgpdaaGreat.lE f a n' b := rfl
theorem wo {α : Type} (p : List α) (x y : α) (r : List α) : iZ (p ++ x :: r) (p.length : Int) y = some (p ++ y :: r) := by
 unfold iZ
 rw [if_pos ⟨by omega, by simp; omega⟩]
 simp
/-- the own ye put vl the own database -/
def afv (f : aA) (n : aU) : aU := aU.mk n.aj n.Seq n.bh n.Claims (w9 n.Database (ofA (ij f) n.aj n.Seq n.Claims)).1
theorem agE {f : aA} (h : Vf f) {n : aU} (hn : n ∈ f.aG) {seq : Int} (hs : 1 ≤ seq ∧ seq ≤ 1000000) : cE (ofA (ij f) n.aj seq n.Claims) = true := by
 rw [yj h hn]; simp [inB]; omega
theorem agF {f : aA} (h : Vf f) {a b : List aU} {n : aU} (hL : f.aG = a ++ n :: b) (hs : 1 ≤ n.Seq) : dR (aT.mk f) (a.length : Int) = some (aT.mk (lE f a (afv f n) b)) := by
 have hn : n ∈ f.aG := by rw [hL]; simp
 have hno := h.n n hn
 have hv := agE h hn (seq := n.Seq) ⟨hs, hno.1.2⟩
 unfold dR
 have e0 : decide (n.Seq = 0) = false := by simp; omega
 have e1 : inB n.Seq 1 1000000 = true := by simp [inB]; omega
 simp only [hL, iP, aO]
 simp only [adu h hn, e0, cond_false, tw, e1, cond_true, aO]
 rw [aqS hno.2.2.sm (Va.sm hv), if_pos ⟨sX.2 hno.2.2, hv⟩, aO, wo, aO]
 rfl
theorem aa0 {f : aA} {a b : List aU} {n : aU} (hL : f.aG = a ++ n :: b) (hl : f.aG.length ≤ 100000) (n' : aU) : nk f (a.length : Int) n' = some (lE f a n' b) := by
 unfold nk
 rw [dZ (by simp; omega), aO, List.nil_append, hL, iP, aO, wo, aO]; rfl
theorem zu {f : aA} (h : Vf f) {a b : List aU} {n : aU} (hL : f.aG = a ++ n :: b) {seq : Int} (hs : 1 ≤ seq ∧ seq ≤ 1000000) : lM f (a.length : Int) seq = some (lE f a (afv f (aU.mk n.aj seq n.bh n.Claims n.Database)) b) := by
 have hn : n ∈ f.aG := by rw [hL]; simp
 have hno := h.n n hn
 have hv := agE h hn hs
 have e1 : inB seq 1 1000000 = true := by simp [inB]; omega
 unfold lM
 rw [show elO f.aG (a.length : Int) = some n by rw [hL]; exact iP a n b, aO, ab7 h hL, aO]
 simp only [tw, e1, cond_true]
 rw [agx, if_pos ⟨sX.2 hno.2.2, hv⟩, aO, aa0 hL (by have := h.len; omega), aO]
 rfl
/-! begin and message -/
theorem ym {f : aA} (h : Vf f) {a b : List aU} {n : aU} (hL : f.aG = a ++ n :: b) : dz f n.aj = some (aT.mk f, (a.length : Int), 0) := by
 unfold dz
 have e : decide (0 ≤ (a.length : Int)) = true := by simp
 simp only [sB h.sm, rL.2 h, y6, h.idx hL, e, aO, cond_true, decide_true, Bool.not_true, cond_false, ajq h]
theorem qv {f : aA} (h : SmF f) (hv : jP f = false) (r : Int) : dz f r = none ∧ en f r = some (0, 1) := by
 unfold dz en
 simp only [sB h, hv, aO, cond_false]
 exact ⟨rfl, rfl⟩
theorem qw {f : aA} (h : Vf f) {r : Int} (hr : kg f r = -1) : dz f r = none ∧ en f r = some (0, 4) := by
 unfold dz en
 simp only [sB h.sm, rL.2 h, y6, hr, aO, cond_true]
 exact ⟨rfl, rfl⟩
theorem vj : SmF (aA.mk [] [] []) := ⟨by simp, by simp⟩
theorem akF {f : aA} (h : SmF f) {a b : List aU} {n : aU} (hL : f.aG = a ++ n :: b) (n' : aU) : SmF (Go.Proofs.YtpmifmdidfgpdaaGreat.lE f a n' b) := ⟨h.1, by have := h.2; rw [hL] at this; simpa [Go.Proofs.YtpmifmdidfgpdaaGreat.lE] using this⟩
theorem ava {f : aA} (h : SmF f) (M : List bP) : SmF (aA.mk f.Links f.aG M) := ⟨h.1, h.2⟩
/-! Originate, Restart -/
theorem abH {f : aA} (h : SmF f) (r : Int) : ∃ p, fC f r = some p ∧ kj f r = some p ∧ SmF p.1 := by
 unfold fC kj
 rw [ov h]
 cases hv : jP f
 ·rw [(qv h hv r).1, (qv h hv r).2]; exact ⟨_, rfl, rfl, vj⟩
 ·have hf := rL.1 hv
  rcases rK f r with ⟨h1, _⟩ | ⟨a, n, b, hL, h2, h3⟩
  ·rw [(qw hf h1).1, (qw hf h1).2]
   simp only [aO, ny, h1]; exact ⟨_, rfl, rfl, vj⟩
  ·subst h3
   have hn : n ∈ f.aG := by rw [hL]; simp
   have hno := hf.n n hn
   have e1 : elO f.aG (a.length : Int) = some n := by rw [hL]; exact iP a n b
   have e2 : iZ f.aG (a.length : Int) = fun y => some (a ++ y :: b) := by funext y; rw [hL]; exact wo a n y b
   have e3 : decide ((a.length : Int) < 0) = false := by simp
   rw [ym hf hL]
   simp only [els, ny, h2, e1, e2, e3, aO, decide_true, Bool.not_true, cond_false]
   cases hq : decide (n.Seq = 1000000)
   ·have hq : n.Seq ≠ 1000000 := by simpa using hq
    simp only [cond_false]
    rw [cC (by omega) (by omega)]
    have hV : Vf (lE f a (aU.mk n.aj (n.Seq + 1) n.bh n.Claims n.Database) b) := hf.lE hL rfl rfl ⟨⟨by show 0 ≤ n.Seq + 1; omega, by show n.Seq + 1 ≤ 1000000; omega⟩, hno.2.1, hno.2.2⟩
    have := agF hV (a := a) (b := b) (n := aU.mk n.aj (n.Seq + 1) n.bh n.Claims n.Database) rfl (by show 1 ≤ n.Seq + 1; omega)
    rw [show aA.mk f.Links (a ++ aU.mk n.aj (n.Seq + 1) n.bh n.Claims n.Database :: b) f.aF = lE f a (aU.mk n.aj (n.Seq + 1) n.bh n.Claims n.Database) b from rfl, this, zu hf hL (by omega)]
    simp only [aO, acd]
    have et := vi (n' := aU.mk n.aj (n.Seq + 1) n.bh n.Claims n.Database) hL rfl rfl
    refine ⟨_, rfl, ?_, akF h hL _⟩
    unfold afv
    rw [et]
   ·exact ⟨_, rfl, rfl, vj⟩
theorem adB {f : aA} (h : SmF f) (r : Int) : ∃ p, jN f r = some p ∧ l8 f r = some p ∧ SmF p.1 := by
 unfold jN l8
 rw [ov h]
 cases hv : jP f
 ·rw [(qv h hv r).1, (qv h hv r).2]; exact ⟨_, rfl, rfl, vj⟩
 ·have hf := rL.1 hv
  rcases rK f r with ⟨h1, _⟩ | ⟨a, n, b, hL, h2, h3⟩
  ·rw [(qw hf h1).1, (qw hf h1).2]
   simp only [aO, ny, h1]; exact ⟨_, rfl, rfl, vj⟩
  ·subst h3
   have hn : n ∈ f.aG := by rw [hL]; simp
   have hno := hf.n n hn
   have hl := hf.len
   have e1 : elO f.aG (a.length : Int) = some n := by rw [hL]; exact iP a n b
   have e2 : iZ f.aG (a.length : Int) = fun y => some (a ++ y :: b) := by funext y; rw [hL]; exact wo a n y b
   have e3 : decide ((a.length : Int) < 0) = false := by simp
   have hnil : Vd (aH.mk []) := ⟨by simp, by simp, by simp⟩
   rw [ym hf hL]
   simp only [els, ny, h2, e1, e2, e3, aO, decide_true, Bool.not_true, cond_false, iP, wo]
   have hV : Vf (lE f a (aU.mk n.aj 1 n.bh n.Claims (aH.mk [])) b) := hf.lE hL rfl rfl ⟨⟨by show (0:Int) ≤ 1; decide, by show (1:Int) ≤ 1000000; decide⟩, hno.2.1, hnil⟩
   have h4 := agF hV (a := a) (b := b) (n := aU.mk n.aj 1 n.bh n.Claims (aH.mk [])) rfl (by show (1:Int) ≤ 1; decide)
   have hV2 : Vf (lE f a (aU.mk n.aj n.Seq n.bh n.Claims (aH.mk [])) b) := hf.lE hL rfl rfl ⟨hno.1, hno.2.1, hnil⟩
   rw [show aA.mk f.Links (a ++ aU.mk n.aj 1 n.bh n.Claims (aH.mk []) :: b) f.aF = lE f a (aU.mk n.aj 1 n.bh n.Claims (aH.mk [])) b from rfl, h4, aa0 hL (by omega)]
   simp only [aO]
   rw [zu hV2 (a := a) (b := b) (n := aU.mk n.aj n.Seq n.bh n.Claims (aH.mk [])) rfl (by decide)]
   simp only [aO, acd]
   have et := vi (n' := aU.mk n.aj 1 n.bh n.Claims (aH.mk [])) hL rfl rfl
   have et2 := vi (n' := aU.mk n.aj n.Seq n.bh n.Claims (aH.mk [])) hL rfl rfl
   refine ⟨_, rfl, ?_, akF h hL _⟩
   unfold afv
   rw [et, et2]
/-! Send -/
def afw (f : aA) (n : aU) : List bP := (jD (ij f) n.aj).map fun x => bP.mk n.aj x n.Database
theorem anF {f : aA} (h : Vf f) {a b : List aU} {n : aU} (hL : f.aG = a ++ n :: b) (M : List bP) (hM : M.length ≤ 5000) : fh (aT.mk (aA.mk f.Links f.aG M)) (a.length : Int) = some (aT.mk (aA.mk f.Links f.aG (M ++ afw f n))) := by
 have hn : n ∈ f.aG := by rw [hL]; simp
 have e1 : elO f.aG (a.length : Int) = some n := by rw [hL]; exact iP a n b
 unfold fh
 have ht : dD (aA.mk f.Links f.aG M) = some (ij f) := yg (f := aA.mk f.Links f.aG M) h.sm
 simp only [e1, aO, ht, abw, oe.2 h.t, if_true, abG (h.n n hn).2.2.sm]
 have h23 := xd h.t (tX hn)
 rw [sZ (fun x : Int => bP.mk n.aj x n.Database) _ 0 M (by omega)]
 rfl
theorem agG {f : aA} (h : SmF f) (r : Int) : ∃ p, l7 f r = some p ∧ oS f r = some p ∧ SmF p.1 := by
 unfold l7 oS
 rw [ov h]
 cases hv : jP f
 ·rw [(qv h hv r).1, (qv h hv r).2]; exact ⟨_, rfl, rfl, vj⟩
 ·have hf := rL.1 hv
  rcases rK f r with ⟨h1, _⟩ | ⟨a, n, b, hL, h2, h3⟩
  ·rw [(qw hf h1).1, (qw hf h1).2]
   simp only [aO, ny, h1]; exact ⟨_, rfl, rfl, vj⟩
  ·subst h3
   have hn : n ∈ f.aG := by rw [hL]; simp
   have hm := hf.m
   have e1 : elO f.aG (a.length : Int) = some n := by rw [hL]; exact iP a n b
   have e3 : decide ((a.length : Int) < 0) = false := by simp
   have h23 := xd hf.t (tX hn)
   rw [ym hf hL]
   have hs := anF hf hL f.aF (by omega)
   rw [show aA.mk f.Links f.aG f.aF = f from rfl] at hs
   simp only [els, ny, h2, e1, e3, aO, decide_true, Bool.not_true, cond_false, hs, qu h, aak hf.t]
   rw [cC (by omega) (by omega)]
   have el : ((f.aF ++ afw f n).length : Int) = (f.aF.length : Int) + ((jD (ij f) n.aj).length : Int) := by simp [afw]
   rw [el]
   cases hc : decide ((400:Int) < (f.aF.length : Int) + ((jD (ij f) n.aj).length : Int))
   ·simp only [cond_false]
    rw [dZ (by simp; omega), aO, List.nil_append, sZ (fun x : Int => bP.mk n.aj x n.Database) _ 0 f.aF (by omega)]
    exact ⟨_, rfl, rfl, ava h _⟩
   ·exact ⟨_, rfl, rfl, vj⟩
/-! Lose, Double -/
def avb (f : aA) (p q : List bP) : aA := aA.mk f.Links f.aG (p ++ q)
/-! aaY are equal to themselves -/
theorem xg (f : aA) (h : SmF f) : kX f f = some true := by
 unfold kX
 simp only [jn, qu h, aO, abY, Bool.not_true, cond_false, decide_true]
 refine Ok.eq ?_
 refine Ok.pq (fun _ _ => True) ?_ _ trivial fun _ _ => ?_
 ·intro p n r s Z hL _ hZ
  rw [show elO f.aG (p.length : Int) = some n by rw [hL]; exact iP p n r]
  simp only [aO, decide_true, wY, aaX, Bool.not_true, cond_false]
  refine Ok.pq (fun _ _ => True) ?_ _ trivial fun _ _ => hZ _ trivial
  intro p2 c r2 s2 Z2 hL2 _ hZ2
  rw [show elO n.Claims (p2.length : Int) = some c by rw [hL2]; exact iP p2 c r2, aO, xy]
  exact hZ2 _ trivial
 ·refine Ok.pq (fun _ _ => True) ?_ _ trivial fun _ _ => Ok.s rfl
  intro p m r s Z hL _ hZ
  rw [show elO f.aF (p.length : Int) = some m by rw [hL]; exact iP p m r]
  simp only [aO, decide_true, wY, aaX, Bool.not_true, cond_false]
  exact hZ _ trivial
end Go.Proofs.YtpmifmdidfgpdaaGreat

/- Plain: messages are agH, by both. No condition but bT bF stand in each. -/
namespace Go.Proofs.YtpmifmdidfgpdaaGreat
set_option linter.all false
open Go
theorem Vf.drop {f : aA} (h : Vf f) {p q : List bP} {x : bP} (hL : f.aF = p ++ x :: q) : Vf (avb f p q) := by
 refine ⟨h.t, ?_, h.n, fun m hm => ?_⟩
 ·have := h.m; rw [hL] at this; show (p ++ q).length ≤ 400; simp at this ⊢; omega
 ·have hm : m ∈ p ++ q := hm
  exact h.g m (by rw [hL]; rcases List.mem_append.1 hm with hm | hm <;> simp [hm])
end Go.Proofs.YtpmifmdidfgpdaaGreat

/- Plain: rounds, by both. No condition but bT bF stand in each. -/
namespace Go.Proofs.YtpmifmdidfgpdaaGreat
set_option linter.all false
open Go
/-! all messages are agH -/
/-! how many messages are sent in all -/
end Go.Proofs.YtpmifmdidfgpdaaGreat
