/- Several texts in one. No condition but those that stand in each. -/
import Derived.Test.YtpmifmdidfgpdaaGreatPM
import Derived.Test.YtpmifmdidfgpdaaGreatDA
import GoSem.Extern.BytealgCompare
import Derived.Lib.Strings
import Derived.Test.YtpmifmdidfgpdaaGreatDL
/- Plain: vu and abe: valid, the check, equal, found; what the apI amv give. No condition. -/
namespace Go.Proofs.YtpmifmdidfgpdaaGreat
set_option linter.all false
open Go
/-- a loop bB looks at each element and at the one ahead of it -/
theorem we {α σ β : Type} {B : Int → α → (σ → Option β) → σ → Option β} {K : σ → Option β} {L : List α} (g : α → Bool) (p : α → α → Bool) (a : Option β) (h0 : ∀ x Z s, B ((0 : Nat) : Int) x Z s = bif g x then Z s else a)
  (hB : ∀ (j : Nat) x y r q s Z, L = q ++ y :: x :: r → j = q.length + 1 → B (j : Int) x Z s = bif g x && p y x then Z s else a) (s : σ) : bN L 0 B K s = bif L.all g && fk p L then K s else a := by
 have key : ∀ (r q : List α) (y : α) (s : σ), L = q ++ y :: r → bN r (q.length + 1) B K s = bif r.all g && fk p (y :: r) then K s else a := by
  intro r
  induction r with
  | nil => intro q y s _; rfl
  | cons x r ih =>
   intro q y s h
   simp only [bN]
   rw [hB (q.length + 1) x y r q s _ h rfl]
   have := ih (q ++ [y]) x s (by simpa using h)
   simp only [List.length_append, List.length_cons, List.length_nil] at this
   rw [this]
   simp only [fk, List.all_cons]
   cases g x <;> cases p y x <;> simp
 cases L with
 | nil => rfl
 | cons y r =>
  simp only [bN]
  rw [h0]
  have := key r [] y s rfl
  simp only [List.length_nil] at this
  rw [this, List.all_cons]
  cases g y <;> simp
/-- a loop along two lists -/
theorem uf {α γ β : Type} {B : Int → α → (Unit → Option β) → Unit → Option β} {K : Unit → Option β} (e : α → γ → Bool) (a : Option β) {m : List γ} (hB : ∀ j x Z s, B j x Z s = bnd (elO m j) fun y => bif !(e x y) then a else Z s) :
  ∀ (l : List α), l.length = m.length → bN l 0 B K () = bif (l.zip m).all (fun p => e p.1 p.2) then K () else a := by
 have key : ∀ (l : List α) (q r : List γ), m = q ++ r → l.length = r.length → bN l q.length B K () = bif (l.zip r).all (fun p => e p.1 p.2) then K () else a := by
  intro l
  induction l with
  | nil => intro q r _ h; rfl
  | cons x l ih =>
   intro q r hm hl
   cases r with
   | nil => simp at hl
   | cons y r =>
    simp only [bN, hB, hm, iq, aP]
    have := ih (q ++ [y]) r (by simpa using hm) (by simpa using hl)
    simp only [List.length_append, List.length_cons, List.length_nil] at this
    rw [this, List.zip_cons_cons, List.all_cons]
    cases e x y <;> rfl
 intro l h
 exact key l [] m rfl h
def inB (n lo hi : Int) : Bool := decide (lo ≤ n) && decide (n ≤ hi)
def kG (a : aj) (x : bu) : Bool := inB x.bw 1 99 && !decide (x.bw = a.ak) && inB x.lM 1 1000 && inB x.bY 0 1000
def pR (n : Int) : Bool := decide (n = 8) || (decide (n = 16) || (decide (n = 32) || decide (n = 64)))
def jU (c : bz) : Bool := inB c.b9 0 7 && inB c.ID 1 256 && pR c.Length
def ug (l : List bu) : Bool := fk (fun a b => decide (a.bw < b.bw)) l
def rI (l : List bz) : Bool := fk (fun a b => decide (a.b9 < b.b9)) l
def cu (a : aj) : Bool := (inB a.ak 1 99 && inB a.Seq 1 1000000 && decide ((a.Links.length : Int) ≤ 23)) && (a.Links.all (kG a) && ug a.Links) && (decide ((a.Claims.length : Int) ≤ 8) && (a.Claims.all jU && rI a.Claims))
theorem vw {x y : Int} : decide (x ≤ y) = !decide (y < x) := by
 by_cases h : y < x
 ·simp [h]
 ·simp [h]; omega
theorem aaP (n lo hi : Int) : fu n lo hi = some (inB n lo hi) := rfl
theorem ajA (n : Int) : ku n = some (pR n) := rfl
theorem inE (n lo hi : Int) : gY n lo hi = some (inB n lo hi) := rfl
theorem ajB (n : Int) : ij n = some (pR n) := by
 unfold ij pR
 cases decide (n = 8) <;> cases decide (n = 16) <;> cases decide (n = 32) <;> cases decide (n = 64) <;> rfl
theorem xx (l : List bz) : gC l = some (decide ((l.length : Int) ≤ 8) && (l.all jU && rI l)) := by
 unfold gC
 by_cases h : (8 : Int) < l.length
 ·have h' : ¬ (l.length : Int) ≤ 8 := by omega
  simp [h, h']
 ·have h' : (l.length : Int) ≤ 8 := by omega
  simp only [h, decide_false, cond_false, h', decide_true, Bool.true_and]
  refine (we jU (fun a b => decide (a.b9 < b.b9)) (some false) ?_ ?_ _).trans ?_
  ·intro x Z s
   simp only [jn, aaP, ajA, aP, jU]
   cases inB x.b9 0 7 <;> cases inB x.ID 1 256 <;> cases pR x.Length <;> rfl
  ·intro j x y r q s Z hL hj
   have : decide ((0 : Int) < (j : Int)) = true := by simp; omega
   simp only [jn, aaP, ajA, aP, jU, lT hL hj (by omega), vw, this]
   cases inB x.b9 0 7 <;> cases inB x.ID 1 256 <;> cases pR x.Length <;> cases decide (y.b9 < x.b9) <;> rfl
  ·unfold rI; cases l.all jU && fk _ l <;> rfl
theorem o3 (a : aj) : fZ a = some (cu a) := by
 unfold fZ cu
 simp only [jn, aaP, aP]
 by_cases h : (a.Links.length : Int) ≤ 23
 ·have h' : ¬ (23 : Int) < a.Links.length := by omega
  simp only [h, h', decide_true, decide_false, Bool.and_true]
  cases inB a.ak 1 99 <;> cases inB a.Seq 1 1000000 <;> simp only [Bool.not_true, Bool.not_false, cond_true, cond_false, Bool.false_and, Bool.true_and, Bool.and_self]
  refine (we (kG a) (fun a b => decide (a.bw < b.bw)) (some false) ?_ ?_ _).trans ?_
  ·intro x Z s
   simp only [aP, kG]
   cases inB x.bw 1 99 <;> cases decide (x.bw = a.ak) <;> cases inB x.lM 1 1000 <;> cases inB x.bY 0 1000 <;> rfl
  ·intro j x y r q s Z hL hj
   have : decide ((0 : Int) < (j : Int)) = true := by simp; omega
   simp only [aP, kG, lT hL hj (by omega), vw, this]
   cases inB x.bw 1 99 <;> cases decide (x.bw = a.ak) <;> cases inB x.lM 1 1000 <;> cases inB x.bY 0 1000 <;> cases decide (y.bw < x.bw) <;> rfl
  ·simp only [xx, aP]
   unfold ug
   cases a.Links.all (kG a) && fk _ a.Links <;> rfl
 ·have h' : (23 : Int) < a.Links.length := by omega
  simp only [h, h', decide_true, decide_false, Bool.and_false, Bool.false_and]
  cases inB a.ak 1 99 <;> cases inB a.Seq 1 1000000 <;> rfl
theorem rJ (a : aj) : gi a = some (cu a) := by
 unfold gi cu
 simp only [jn, inE, aP]
 by_cases h : (a.Links.length : Int) ≤ 23
 ·have h' : ¬ (23 : Int) < a.Links.length := by omega
  by_cases hc : (a.Claims.length : Int) ≤ 8
  ·have hc' : ¬ (8 : Int) < a.Claims.length := by omega
   simp only [h, h', hc, hc', decide_true, decide_false, Bool.and_true, Bool.true_and]
   cases inB a.ak 1 99 <;> cases inB a.Seq 1 1000000 <;> simp only [Bool.not_true, Bool.not_false, cond_true, cond_false, Bool.false_and, Bool.true_and, Bool.and_self]
   refine (we (kG a) (fun a b => decide (a.bw < b.bw)) (some false) ?_ ?_ _).trans ?_
   ·intro x Z s
    simp only [aP, kG]
    cases inB x.bw 1 99 <;> cases decide (x.bw = a.ak) <;> cases inB x.lM 1 1000 <;> cases inB x.bY 0 1000 <;> rfl
   ·intro j x y r q s Z hL hj
    have : decide ((0 : Int) < (j : Int)) = true := by simp; omega
    simp only [aP, kG, lT hL hj (by omega), vw, this]
    cases inB x.bw 1 99 <;> cases decide (x.bw = a.ak) <;> cases inB x.lM 1 1000 <;> cases inB x.bY 0 1000 <;> cases decide (y.bw < x.bw) <;> rfl
   ·refine Eq.trans (b := bif a.Links.all (kG a) && ug a.Links then (bif a.Claims.all jU && rI a.Claims then some true else some false) else some false) ?_ ?_
    ·unfold ug
     congr 1
     refine (we jU (fun a b => decide (a.b9 < b.b9)) (some false) ?_ ?_ _).trans ?_
     ·intro x Z s
      simp only [ajB, aP, jU]
      cases inB x.b9 0 7 <;> cases inB x.ID 1 256 <;> cases pR x.Length <;> rfl
     ·intro j x y r q s Z hL hj
      have : decide ((0 : Int) < (j : Int)) = true := by simp; omega
      simp only [ajB, aP, jU, lT hL hj (by omega), vw, this]
      cases inB x.b9 0 7 <;> cases inB x.ID 1 256 <;> cases pR x.Length <;> cases decide (y.b9 < x.b9) <;> rfl
     ·rfl
    ·cases a.Links.all (kG a) && ug a.Links <;> cases a.Claims.all jU && rI a.Claims <;> rfl
  ·have hc' : (8 : Int) < a.Claims.length := by omega
   simp only [h, h', hc, hc', decide_true, decide_false, Bool.and_false, Bool.false_and]
   cases inB a.ak 1 99 <;> cases inB a.Seq 1 1000000 <;> rfl
 ·have h' : (23 : Int) < a.Links.length := by omega
  simp only [h, h', decide_true, decide_false, Bool.and_false, Bool.false_and]
  cases inB a.ak 1 99 <;> cases inB a.Seq 1 1000000 <;> rfl
/-! the check -/
def acw (d : aF) : Bool := fk (fun a b => decide (a.ak < b.ak)) d.aq
def dbC (d : aF) : Int := bif decide ((99 : Int) < (d.aq.length : Int)) then 3 else bif d.aq.all cu then (bif acw d then 0 else 25) else 1
theorem rO (d : aF) : gG d = some (dbC d) := by
 unfold gG dbC
 by_cases h : (99 : Int) < d.aq.length
 ·simp [h]
 simp only [h, decide_false, cond_false]
 refine (rH (fun a => !cu a) (some 1) ?_ _ _ _).trans ?_
 ·intro j x Z s; simp only [o3, aP]
 rw [← List.not_all_eq_any_not]
 cases d.aq.all cu
 ·rfl
 simp only [Bool.not_true, cond_false, cond_true]
 refine (xk (fun a b : aj => decide (a.ak < b.ak)) (some 25) ?_ _).trans ?_
 ·intro j x y r q s Z hL hj
  simp only [lT hL hj (by omega), aP, vw]
  cases decide (y.ak < x.ak) <;> rfl
 ·unfold acw; cases fk _ d.aq <;> rfl
theorem cfA (l : List aj) (f : aj → Option Bool) (p : aj → Bool) (hf : ∀ x, f x = some (p x)) : cV l f = some (l.any p) := by
 unfold cV dL
 obtain ⟨r, h1, h2⟩ := vW (B := fun (j1 : Int) (e1 : aj) (Z1 : Unit → Option Int) (sg : Unit) => match sg with | () => bnd (f e1) fun (af : Bool) => bif af then some (j1 : Int) else Z1 ()) (K := fun (sg : Unit) => match sg with | () => some (-1:Int)) p (fun j x Z s => by simp only [hf, aP]) (fun _ => rfl) l 0 ()
 simp only [h1, aP, h2]
theorem wg (d : aF) : eX d = some (dbC d) := by
 unfold eX dbC
 by_cases h : (99 : Int) < d.aq.length
 ·simp [h]
 simp only [h, decide_false, cond_false]
 rw [cfA d.aq _ (fun a => !cu a) (fun x => by simp only [lD, rJ, aP]), aP]
 rw [← List.not_all_eq_any_not]
 cases d.aq.all cu
 ·rfl
 simp only [Bool.not_true, cond_false, cond_true]
 refine (xm (fun a b : aj => decide (a.ak < b.ak)) (some 25) ?_ ?_ _).trans ?_
 ·intros; rfl
 ·intro j x y r q s Z hL hj
  have : decide ((0 : Int) < (j : Int)) = true := by simp; omega
  simp only [jn, lT hL hj (by omega), aP, vw, this]
  cases decide (y.ak < x.ak) <;> rfl
 ·unfold acw; cases fk _ d.aq <;> rfl
/-! equal -/
def aaQ (l m : List bu) : Bool := decide ((l.length : Int) = m.length) && (l.zip m).all (fun p => jE p.1 p.2)
def aaR (l m : List bz) : Bool := decide ((l.length : Int) = m.length) && (l.zip m).all (fun p => gH p.1 p.2)
def rP (a b : aj) : Bool := decide (a.ak = b.ak) && (decide (a.Seq = b.Seq) && ((a.aX == b.aX) && (aaQ a.Links b.Links && aaR a.Claims b.Claims)))
theorem apO (l m : List bu) : fT l m = some (aaQ l m) := by
 unfold fT aaQ
 by_cases h : (l.length : Int) = m.length
 ·simp only [h, decide_true, Bool.not_true, cond_false, Bool.true_and]
  rw [uf jE (some false) (fun j x Z s => rfl) l (by omega)]
  cases (l.zip m).all _ <;> rfl
 ·simp [h]
theorem apP (l m : List bz) : fU l m = some (aaR l m) := by
 unfold fU aaR
 by_cases h : (l.length : Int) = m.length
 ·simp only [h, decide_true, Bool.not_true, cond_false, Bool.true_and]
  rw [uf gH (some false) (fun j x Z s => rfl) l (by omega)]
  cases (l.zip m).all _ <;> rfl
 ·simp [h]
theorem amC (a b : aj) : jG a b = some (rP a b) := by
 unfold jG rP
 simp only [apO, apP, aP]
 cases decide (a.ak = b.ak) <;> cases decide (a.Seq = b.Seq) <;> cases (a.aX == b.aX) <;> cases aaQ a.Links b.Links <;> cases aaR a.Claims b.Claims <;> rfl
theorem zY (a b : aj) : mm a b = some (rP a b) := by
 unfold mm rP aaQ aaR
 by_cases hl : (a.Links.length : Int) = b.Links.length
 ·by_cases hc : (a.Claims.length : Int) = b.Claims.length
  ·simp only [hl, hc, decide_true, Bool.not_true, Bool.or_false, Bool.true_and]
   rw [uf jE (some false) (fun j x Z s => rfl) a.Links (by omega), uf gH (some false) (fun j x Z s => rfl) a.Claims (by omega)]
   cases decide (a.ak = b.ak) <;> cases decide (a.Seq = b.Seq) <;> cases (a.aX == b.aX) <;> cases (a.Links.zip b.Links).all _ <;> cases (a.Claims.zip b.Claims).all _ <;> rfl
  ·simp [hc]
 ·simp [hl]
def abD (a b : aF) : Bool := decide ((a.aq.length : Int) = b.aq.length) && (a.aq.zip b.aq).all (fun p => rP p.1 p.2)
theorem zZ (a b : aF) : mo a b = some (abD a b) := by
 unfold mo abD
 by_cases h : (a.aq.length : Int) = b.aq.length
 ·simp only [h, decide_true, Bool.not_true, cond_false, Bool.true_and]
  rw [uf (m := b.aq) rP (some false) (fun j x Z s => by simp only [zY, aP]) a.aq (by omega)]
  cases (a.aq.zip b.aq).all _ <;> rfl
 ·simp [h]
theorem abu (a : bu) : jE a a = true := by simp [jE]
theorem wI (a : bz) : gH a a = true := by simp [gH]
theorem wh {α : Type} (e : α → α → Bool) (h : ∀ x, e x x = true) : ∀ l : List α, (l.zip l).all (fun p => e p.1 p.2) = true
 | [] => rfl
 | x :: r => by simp only [List.zip_cons_cons, List.all_cons, h, wh e h r, Bool.and_self]
theorem aem (a : aj) : rP a a = true := by
 unfold rP aaQ aaR
 rw [wh jE abu, wh gH wI]; simp
/-! found -/
def noA : aj := aj.mk 0 0 false [] []
def gV (d : aF) (r : Int) : aj × Bool := match d.aq.find? (fun a => decide (a.ak = r)) with | some a => (a, true) | none => (noA, false)
theorem z6 (d : aF) (r : Int) : mq d r = some (gV d r) := by
 unfold mq
 rw [sy (fun a : aj => decide (a.ak = r)) (fun a => some (a, true)) (fun j x Z s => rfl)]
 unfold gV
 cases d.aq.find? _ <;> rfl
/-- lists of a size bB can be copied -/
def SmA (a : aj) : Prop := a.Links.length ≤ 100000 ∧ a.Claims.length ≤ 100000
def SmD (d : aF) : Prop := d.aq.length ≤ 100000 ∧ ∀ a ∈ d.aq, SmA a
theorem afc {l : List bu} (h : l.length ≤ 100000) : dy l = some l := by
 unfold dy dF
 rw [dP (by simp; omega)]; rfl
theorem acy {l : List bz} (h : l.length ≤ 100000) : cN l = some l := by
 unfold cN dD
 rw [dP (by simp; omega)]; rfl
theorem uJ {a : aj} (h : SmA a) : eD a = some a := by
 unfold eD
 rw [afc h.1, aP, acy h.2, aP]
theorem amD {d : aF} (h : SmD d) (r : Int) : jA d r = some (gV d r) := by
 unfold jA
 rw [sy (fun a : aj => decide (a.ak = r)) (fun a => bnd (eD a) fun (af : aj) => some (af, true)) (fun j x Z s => rfl)]
 unfold gV
 cases hf : d.aq.find? (fun a => decide (a.ak = r)) with
 | none => rfl
 | some a => simp only [uJ (h.2 a (List.mem_of_find?_eq_some hf)), aP]
end Go.Proofs.YtpmifmdidfgpdaaGreat

/- Plain: the abe bB the tape air: adM sizes, and bB xY ah2 abI are valid. No condition. -/
namespace Go.Proofs.YtpmifmdidfgpdaaGreat
set_option linter.all false
open Go
theorem abf {t : aR} (h : cG t) : Ok (iP t) (fun p => pR p.1 = true ∧ cG p.2) := by
 unfold iP
 refine Ok.bnd (j7 h (by decide) (by decide)) fun p hp => Ok.s ⟨?_, hp.2⟩
 have := hp.1
 simp only [List.mem_cons, List.not_mem_nil, or_false] at this
 show pR p.1 = true
 simp only [pR, Bool.or_eq_true, decide_eq_true_eq]; omega
theorem x7 {α : Type} {p : α → α → Bool} : ∀ {l : List α} {x : α}, fk p l = true → (∀ y ∈ l, p y x = true) → fk p (l ++ [x]) = true
 | [], _, _, _ => rfl
 | [a], x, _, h => by simp [fk, h a (by simp)]
 | a :: b :: r, x, h, hx => by
  simp only [fk, Bool.and_eq_true] at h
  simp only [List.cons_append, fk, Bool.and_eq_true]
  exact ⟨h.1, x7 h.2 fun y hy => hx y (by simp [hy])⟩
theorem aaS {α : Type} {p : α → Bool} {l : List α} {x : α} (h : l.all p = true) (hx : p x = true) : (l ++ [x]).all p = true := by simp [h, hx] 
/-- an vz of the tape -/
theorem abg {t : aR} {r n : Int} (h : cG t) (hn : n ≤ 9223372036854775807) : Ok (iR t r n) (fun p => SmA p.1 ∧ (n = 0 → 1 ≤ r → r ≤ 99 → cu p.1 = true ∧ p.1.ak = r ∧ ∀ l ∈ p.1.Links, l.bw ≤ 6) ∧ cG p.2) := by
 unfold iR
 refine Ok.bnd (j7 h (by decide) (by decide)) fun p1 h1 => ?_
 have apQ : inB p1.1 1 1000000 = true := by
  have := h1.1
  simp only [List.mem_cons, List.not_mem_nil, or_false] at this
  simp only [inB, Bool.and_eq_true, decide_eq_true_eq]; omega
 refine Ok.bnd (fM h1.2 (by omega)) fun p2 h2 => ?_
 refine Ok.gr (fun j (s : List bu × List Int × Int) => ((s.1.length : Int) ≤ j - 1 ∧ (1 ≤ r → s.1.all (kG (aj.mk r 0 false [] [])) = true) ∧ ug s.1 = true ∧ (∀ x ∈ s.1, x.bw < j)) ∧ cG (aR.mk s.2.1 s.2.2)) 1 7 ?_ ?_ _ _ _ rfl (by omega) (by omega) ⟨by simp [ug, fk], h2.2⟩
 ·intro j s Z hj1 hj2 hI hZ
  obtain ⟨ls, L, At⟩ := s
  obtain ⟨⟨q1, q2, q3, q4⟩, ht⟩ := hI
  simp only at q1 q2 q3 q4
  refine Ok.jn (fun s : List Int × Int × List bu => ((s.2.2.length : Int) ≤ j ∧ (1 ≤ r → s.2.2.all (kG (aj.mk r 0 false [] [])) = true) ∧ ug s.2.2 = true ∧ (∀ x ∈ s.2.2, x.bw < j + 1)) ∧ cG (aR.mk s.1 s.2.1)) (fun s hs => hZ _ ⟨⟨by have := hs.1.1; obtain ⟨_, _, _⟩ := s; simp only at this ⊢; omega, hs.1.2.1, hs.1.2.2⟩, hs.2⟩) fun J1 hJ1 => ?_
  have stay : ∀ L At, cG (aR.mk L At) → Ok (J1 (L, At, ls)) _ := fun L At ht => hJ1 _ ⟨⟨by show (ls.length : Int) ≤ j; omega, q2, q3, fun x hx => by have := q4 x hx; omega⟩, ht⟩
  refine Ok.jn (fun s : Bool × List Int × Int => (s.1 = true → j ≠ r) ∧ cG (aR.mk s.2.1 s.2.2)) (fun s hs => ?_) fun J2 hJ2 => ?_
  ·obtain ⟨v, L2, At2⟩ := s
   refine Ok.cs (fun hv => ?_) fun _ => stay _ _ hs.2
   refine Ok.bnd (oy hs.2) fun p4 h4 => ?_
   refine Ok.bnd (fM h4.2 (by omega)) fun p5 h5 => ?_
   refine Ok.bnd (gT (by simp; omega)) fun l1 hl1 => ?_
   obtain ⟨hl1, hl2⟩ := hl1
   have hc := h4.1 (by omega) (by omega) (by omega)
   have hcap := h5.1
   refine hJ1 _ ⟨⟨by simp only; rw [hl2]; simp; omega, fun hr => ?_, ?_, ?_⟩, h5.2⟩
   ·simp only [hl1]
    refine aaS (q2 hr) ?_
    have hne := hs.1 hv
    simp only [kG, inB, Bool.and_eq_true, decide_eq_true_eq, Bool.not_eq_true', decide_eq_false_iff_not]
    have := hcap.2.1 (by omega)
    omega
   ·simp only [hl1, ug]
    exact x7 q3 fun y hy => by simpa using q4 y hy
   ·simp only [hl1]
    intro x hx
    rcases List.mem_append.1 hx with hx | hx
    ·have := q4 x hx; omega
    ·simp at hx; subst hx; show j < j + 1; omega
  ·refine Ok.cs (fun hc => ?_) fun _ => hJ2 _ ⟨by simp, ht⟩
   refine Ok.bnd (fM ht (by omega)) fun p3 h3 => hJ2 _ ⟨fun _ => by simpa using hc, h3.2⟩
 intro j s hj1 hj2 hI
 obtain ⟨ls, L, At⟩ := s
 obtain ⟨⟨q1, q2, q3, q4⟩, ht⟩ := hI
 have hj := hj2 (by omega)
 subst hj
 simp only at q1 q2 q3 q4
 refine Ok.gr (fun k (s : List bz × List Int × Int) => ((s.1.length : Int) ≤ k ∧ s.1.all jU = true ∧ rI s.1 = true ∧ (∀ x ∈ s.1, x.b9 < k)) ∧ cG (aR.mk s.2.1 s.2.2)) 0 2 ?_ ?_ _ _ _ rfl (by omega) (by omega) ⟨by simp [rI, fk], ht⟩
 ·intro k s Z hk1 hk2 hI hZ
  obtain ⟨cs, L, At⟩ := s
  obtain ⟨⟨r1, r2, r3, r4⟩, ht⟩ := hI
  simp only at r1 r2 r3 r4
  refine Ok.jn (fun s : List Int × Int × List bz => ((s.2.2.length : Int) ≤ k + 1 ∧ s.2.2.all jU = true ∧ rI s.2.2 = true ∧ (∀ x ∈ s.2.2, x.b9 < k + 1)) ∧ cG (aR.mk s.1 s.2.1)) (fun s hs => hZ _ ⟨hs.1, hs.2⟩) fun J3 hJ3 => ?_
  refine Ok.bnd (fM ht (by omega)) fun p6 h6 => ?_
  refine Ok.cs (fun _ => ?_) fun _ => hJ3 _ ⟨⟨by show (cs.length : Int) ≤ _; omega, r2, r3, fun x hx => by have := r4 x hx; omega⟩, h6.2⟩
  refine Ok.bnd (oy h6.2) fun p7 h7 => ?_
  refine Ok.bnd (abf h7.2) fun p8 h8 => ?_
  refine Ok.bnd (gT (by simp; omega)) fun l2 hl2 => ?_
  obtain ⟨hl1, hl2⟩ := hl2
  have hid := h7.1 (by omega) (by omega) (by omega)
  refine hJ3 _ ⟨⟨by simp only; rw [hl2]; simp; omega, ?_, ?_, ?_⟩, h8.2⟩
  ·simp only [hl1]
   refine aaS r2 ?_
   simp only [jU, inB, h8.1, Bool.and_true, Bool.and_eq_true, decide_eq_true_eq]
   omega
  ·simp only [hl1, rI]
   exact x7 r3 fun y hy => by simpa using r4 y hy
  ·simp only [hl1]
   intro x hx
   rcases List.mem_append.1 hx with hx | hx
   ·have := r4 x hx; omega
   ·simp at hx; subst hx; show k < k + 1; omega
 intro k s hk1 hk2 hI
 obtain ⟨cs, L, At⟩ := s
 obtain ⟨⟨r1, r2, r3, r4⟩, ht⟩ := hI
 have hk := hk2 (by omega)
 subst hk
 simp only at r1 r2 r3 r4
 refine Ok.jn (fun s : List Int × Int × Int × Int × List bu × List bz => (s.2.2.2.2.1.length ≤ 100000 ∧ s.2.2.2.2.2.length ≤ 100000) ∧ (n = 0 → s.2.2 = (r, p1.1, ls, cs)) ∧ cG (aR.mk s.1 s.2.1)) (fun s hs => ?_) fun J4 hJ4 => ?_
 ·obtain ⟨a1, a2, a3, a4, a5, a6⟩ := s
  refine Ok.s ⟨hs.1, fun hn hr1 hr2 => ?_, hs.2.2⟩
  have := hs.2.1 hn
  simp only [Prod.mk.injEq] at this
  obtain ⟨rfl, rfl, rfl, rfl⟩ := this
  refine ⟨?_, rfl, fun l hl => by have := q4 l hl; omega⟩
  have g1 : a5.all (kG (aj.mk a3 p1.1 (decide ((0:Int) < p2.1)) a5 a6)) = true := q2 hr1
  simp only [inB, Bool.and_eq_true, decide_eq_true_eq] at apQ
  simp only [cu, g1, q3, r2, r3, Bool.and_true, Bool.true_and, Bool.and_eq_true, decide_eq_true_eq, inB]
  omega
 refine Ok.jn (fun s : Bool × List Int × Int => (n = 0 → s.1 = false) ∧ cG (aR.mk s.2.1 s.2.2)) (fun s hs => ?_) fun J5 hJ5 => ?_
 ·obtain ⟨v, L2, At2⟩ := s
  have base : ∀ L At a b (l : List bu) (c : List bz), n ≠ 0 → l.length ≤ 100000 → c.length ≤ 100000 → cG (aR.mk L At) → Ok (J4 (L, At, a, b, l, c)) _ := fun L At a b l c hn h1 h2 h3 => hJ4 _ ⟨⟨h1, h2⟩, fun h => absurd h hn, h3⟩
  refine Ok.cs (fun hv => ?_) fun _ => hJ4 _ ⟨⟨by show ls.length ≤ _; omega, by show cs.length ≤ _; omega⟩, fun _ => rfl, hs.2⟩
  have hn0 : n ≠ 0 := fun e => by have := hs.1 e; simp only at hv this; rw [hv] at this; cases this
  refine Ok.bnd (fM hs.2 (by omega)) fun p10 h10 => ?_
  refine Ok.cs (fun _ => Ok.bnd (x5 h10.2) fun q hq => base _ _ _ _ _ _ hn0 (by omega) (by omega) hq) fun _ => ?_
  refine Ok.cs (fun _ => Ok.bnd (x5 h10.2) fun q hq => base _ _ _ _ _ _ hn0 (by omega) (by omega) hq) fun _ => ?_
  refine Ok.cs (fun _ => ?_) fun _ => ?_
  ·refine Ok.bnd (j7 h10.2 (by simp) (by simp)) fun q1' g1 => Ok.bnd (j7 g1.2 (by decide) (by decide)) fun q2' g2 => Ok.bnd (j7 g2.2 (by decide) (by decide)) fun q3' g3 => ?_
   exact Ok.bnd (gT (by simp; omega)) fun l hl => base _ _ _ _ _ _ hn0 (by rw [hl.2]; simp; omega) (by omega) g3.2
  refine Ok.cs (fun _ => ?_) fun _ => ?_
  ·refine Ok.bnd (j7 h10.2 (by decide) (by decide)) fun q1' g1 => Ok.bnd (j7 g1.2 (by decide) (by decide)) fun q2' g2 => Ok.bnd (j7 g2.2 (by decide) (by decide)) fun q3' g3 => ?_
   exact Ok.bnd (gT (by simp; omega)) fun l hl => base _ _ _ _ _ _ hn0 (by omega) (by rw [hl.2]; simp; omega) g3.2
  refine Ok.cs (fun _ => ?_) fun _ => ?_
  ·refine Ok.gr (fun j (m : List bu) => (m.length : Int) ≤ ls.length + (j - 30)) 30 54 ?_ ?_ _ _ _ rfl (by omega) (by omega) (by omega)
   ·intro j m Z hj1 hj2 hI hZ
    exact Ok.bnd (gT (by simp; omega)) fun l hl => hZ _ (by rw [hl.2]; simp; omega)
   ·intro j m hj1 hj2 hI
    have := hj2 (by omega)
    exact base _ _ _ _ _ _ hn0 (by omega) (by omega) h10.2
  refine Ok.cs (fun hl0 => ?_) fun _ => base _ _ _ _ _ _ hn0 (by omega) (by omega) h10.2
  refine Ok.bnd (x5 h10.2) fun q hq => ?_
  simp at hl0
  refine Ok.bnd (qN (by omega) (by omega)) fun e he => ?_
  exact Ok.bnd (ae2 (by omega) (by omega)) fun l hl => base _ _ _ _ _ _ hn0 (by rw [hl.2]; omega) (by omega) hq
 ·refine Ok.cs (fun hc => ?_) fun _ => hJ5 _ ⟨fun _ => rfl, ht⟩
  have : n ≠ 0 := by simp at hc; omega
  exact Ok.bnd (vt ht hn) fun q hq => hJ5 _ ⟨fun e => absurd e this, hq⟩
theorem yA {t : aR} {n : Int} (h : cG t) (hn : n ≤ 9223372036854775807) : Ok (gQ t n) (fun p => (SmD p.1 ∧ p.1.aq.length ≤ 7 ∧ (n = 0 → dbC p.1 = 0 ∧ (∀ a ∈ p.1.aq, a.ak ≤ 6) ∧ ∀ a ∈ p.1.aq, ∀ l ∈ a.Links, l.bw ≤ 6) ) ∧ cG p.2) := by
 unfold gQ
 refine Ok.gr (fun j (s : List aj × List Int × Int) => ((s.1.length : Int) ≤ j - 1 ∧ (∀ a ∈ s.1, SmA a) ∧ s.1.all cu = true ∧ fk (fun a b : aj => decide (a.ak < b.ak)) s.1 = true ∧ (∀ a ∈ s.1, a.ak < j) ∧ ∀ a ∈ s.1, ∀ l ∈ a.Links, l.bw ≤ 6) ∧ cG (aR.mk s.2.1 s.2.2)) 1 7 ?_ ?_ _ _ _ rfl (by omega) (by omega) ⟨by simp [fk], h⟩
 ·intro j s Z hj1 hj2 hI hZ
  obtain ⟨ads, L, At⟩ := s
  obtain ⟨⟨q1, q2, q3, q4, q5, q6⟩, ht⟩ := hI
  simp only at q1 q2 q3 q4 q5 q6
  refine Ok.jn (fun s : List Int × Int × List aj => ((s.2.2.length : Int) ≤ j ∧ (∀ a ∈ s.2.2, SmA a) ∧ s.2.2.all cu = true ∧ fk (fun a b : aj => decide (a.ak < b.ak)) s.2.2 = true ∧ (∀ a ∈ s.2.2, a.ak < j + 1) ∧ ∀ a ∈ s.2.2, ∀ l ∈ a.Links, l.bw ≤ 6) ∧ cG (aR.mk s.1 s.2.1)) (fun s hs => hZ _ ⟨⟨by have := hs.1.1; obtain ⟨_, _, _⟩ := s; simp only at this ⊢; omega, hs.1.2⟩, hs.2⟩) fun J1 hJ1 => ?_
  refine Ok.bnd (fM ht (by omega)) fun p1 h1 => ?_
  refine Ok.cs (fun _ => ?_) fun _ => hJ1 _ ⟨⟨by show (ads.length : Int) ≤ j; omega, q2, q3, q4, fun a ha => by have := q5 a ha; omega, q6⟩, h1.2⟩
  refine Ok.bnd (abg (n := 0) h1.2 (by omega)) fun p2 h2 => ?_
  obtain ⟨g1, g2, g3⟩ := h2
  have g2 := g2 rfl (by omega) (by omega)
  refine Ok.bnd (gT (by simp; omega)) fun l hl => ?_
  obtain ⟨hl, hl2⟩ := hl
  refine hJ1 _ ⟨⟨by simp only; rw [hl2]; simp; omega, ?_, ?_, ?_, ?_, ?_⟩, g3⟩
  ·simp only [hl]; intro a ha
   rcases List.mem_append.1 ha with ha | ha
   ·exact q2 a ha
   ·simp at ha; subst ha; exact g1
  ·simp only [hl]; exact aaS q3 g2.1
  ·simp only [hl]; exact x7 q4 fun y hy => by have := q5 y hy; simp [g2.2.1]; omega
  ·simp only [hl]; intro a ha
   rcases List.mem_append.1 ha with ha | ha
   ·have := q5 a ha; omega
   ·simp at ha; subst ha; rw [g2.2.1]; omega
  ·simp only [hl]; intro a ha
   rcases List.mem_append.1 ha with ha | ha
   ·exact q6 a ha
   ·simp at ha; subst ha; exact g2.2.2
 intro j s hj1 hj2 hI
 obtain ⟨ads, L, At⟩ := s
 obtain ⟨⟨q1, q2, q3, q4, q5, q6⟩, ht⟩ := hI
 have hj := hj2 (by omega)
 subst hj
 simp only at q1 q2 q3 q4 q5 q6
 refine Ok.jn (fun s : List Int × Int × List aj => (s.2.2.length ≤ 7 ∧ (∀ a ∈ s.2.2, SmA a) ∧ (n = 0 → s.2.2 = ads)) ∧ cG (aR.mk s.1 s.2.1)) (fun s hs => ?_) fun J2 hJ2 => ?_
 ·obtain ⟨a1, a2, a3⟩ := s
  obtain ⟨⟨g1, g2, g3⟩, g4⟩ := hs
  simp only at g1 g2 g3
  refine Ok.s ⟨⟨⟨by show a3.length ≤ _; omega, g2⟩, g1, fun h0 => ?_⟩, g4⟩
  have := g3 h0
  subst this
  refine ⟨?_, fun a ha => by have := q5 a ha; omega, q6⟩
  have e : ¬ (99 : Int) < a3.length := by omega
  simp only [dbC, q3, acw, q4, e, decide_false, cond_true, cond_false]
 refine Ok.jn (fun s : Bool × List Int × Int => (n = 0 → s.1 = false) ∧ cG (aR.mk s.2.1 s.2.2)) (fun s hs => ?_) fun J3 hJ3 => ?_
 ·obtain ⟨v, L2, At2⟩ := s
  refine Ok.cs (fun hv => ?_) fun _ => hJ2 _ ⟨⟨by show ads.length ≤ _; omega, q2, fun _ => rfl⟩, hs.2⟩
  have hn0 : n ≠ 0 := fun e => by have := hs.1 e; simp only at hv this; rw [hv] at this; cases this
  refine Ok.bnd (j7 hs.2 (by decide) (by decide)) fun p4 h4 => ?_
  refine Ok.bnd (abg h4.2 (by omega)) fun p5 h5 => ?_
  refine Ok.bnd (gT (by simp; omega)) fun l hl => ?_
  obtain ⟨hl, hl2⟩ := hl
  refine hJ2 _ ⟨⟨by simp only; rw [hl2]; simp; omega, ?_, fun e => absurd e hn0⟩, h5.2.2⟩
  simp only [hl]; intro a ha
  rcases List.mem_append.1 ha with ha | ha
  ·exact q2 a ha
  ·simp at ha; subst ha; exact h5.1
 ·refine Ok.cs (fun hc => ?_) fun _ => hJ3 _ ⟨fun _ => rfl, ht⟩
  have : n ≠ 0 := by simp at hc; omega
  exact Ok.bnd (vt ht hn) fun q hq => hJ3 _ ⟨fun e => absurd e this, hq⟩
end Go.Proofs.YtpmifmdidfgpdaaGreat

/- Plain: the View of a database, by both. No condition. -/
namespace Go.Proofs.YtpmifmdidfgpdaaGreat
set_option linter.all false
open Go
structure Vd (d : aF) : Prop where
 n : d.aq.length ≤ 99
 ok : ∀ a ∈ d.aq, cu a = true
 asc : d.aq.Pairwise (fun a b => a.ak < b.ak)
theorem kj {d : aF} : dbC d = 0 ↔ Vd d := by
 unfold dbC acw
 constructor
 ·intro h
  by_cases h1 : (99 : Int) < d.aq.length
  ·simp [h1] at h
  cases h2 : d.aq.all cu
  ·simp [h1, h2] at h
  cases h3 : fk (fun a b : aj => decide (a.ak < b.ak)) d.aq
  ·simp [h1, h2, h3] at h
  refine ⟨by omega, fun a ha => List.all_eq_true.1 h2 a ha, ?_⟩
  have := ov (p := fun a b : aj => decide (a.ak < b.ak)) (fun a b c h1 h2 => by simp at h1 h2 ⊢; omega) h3
  exact this.imp (fun h => by simpa using h)
 ·intro h
  have h1 : ¬ (99 : Int) < d.aq.length := by have := h.n; omega
  have h2 : d.aq.all cu = true := List.all_eq_true.2 h.ok
  have h3 : fk (fun a b : aj => decide (a.ak < b.ak)) d.aq = true := mG (h.asc.imp fun h => by simpa using h)
  simp [h1, h2, h3]
structure Va (a : aj) : Prop where
 r : 1 ≤ a.ak ∧ a.ak ≤ 99
 n : a.Links.length ≤ 23
 nc : a.Claims.length ≤ 8
 g : ∀ x ∈ a.Links, (1 ≤ x.bw ∧ x.bw ≤ 99) ∧ x.bw ≠ a.ak ∧ (1 ≤ x.lM ∧ x.lM ≤ 1000) ∧ 0 ≤ x.bY ∧ x.bY ≤ 1000
 asc : a.Links.Pairwise (fun x y => x.bw < y.bw)
theorem abE {a : aj} (h : cu a = true) : Va a := by
 simp only [cu, Bool.and_eq_true, decide_eq_true_eq, inB] at h
 obtain ⟨⟨⟨⟨h1, _⟩, h2⟩, h3, h4⟩, h5, _⟩ := h
 refine ⟨h1, by omega, by omega, fun x hx => ?_, ?_⟩
 ·have := List.all_eq_true.1 h3 x hx
  simp only [kG, inB, Bool.and_eq_true, decide_eq_true_eq, Bool.not_eq_true', decide_eq_false_iff_not] at this
  exact ⟨this.1.1.1, this.1.1.2, this.1.2, this.2⟩
 ·have := ov (p := fun a b : bu => decide (a.bw < b.bw)) (fun a b c h1 h2 => by simp at h1 h2 ⊢; omega) h4
  exact this.imp (fun h => by simpa using h)
theorem Vd.sm {d : aF} (h : Vd d) : SmD d := ⟨by have := h.n; omega, fun a ha => by have := abE (h.ok a ha); exact ⟨by have := this.n; omega, by have := this.nc; omega⟩⟩
theorem zw {α : Type} {f : α → Int} : ∀ {l : List α}, l.Pairwise (fun a b => f a < f b) → ∀ {a b : α}, a ∈ l → b ∈ l → f a = f b → a = b
 | [], _, _, _, h, _, _ => by simp at h
 | x :: r, hp, a, b, ha, hb, he => by
  rw [List.pairwise_cons] at hp
  rcases List.mem_cons.1 ha with ea | ha'
  ·rcases List.mem_cons.1 hb with eb | hb'
   ·rw [ea, eb]
   ·have := hp.1 b hb'; rw [ea] at he; omega
  ·rcases List.mem_cons.1 hb with eb | hb'
   ·have := hp.1 a ha'; rw [eb] at he; omega
   ·exact zw hp.2 ha' hb' he
theorem Vd.uniq {d : aF} (h : Vd d) {a b : aj} (ha : a ∈ d.aq) (hb : b ∈ d.aq) (he : a.ak = b.ak) : a = b := zw h.asc ha hb he
theorem Va.uniq {a : aj} (h : Va a) {x y : bu} (hx : x ∈ a.Links) (hy : y ∈ a.Links) (he : x.bw = y.bw) : x = y := zw h.asc hx hy he
theorem qQ (d : aF) (r : Int) : (∃ a ∈ d.aq, a.ak = r ∧ gV d r = (a, true)) ∨ ((∀ a ∈ d.aq, a.ak ≠ r) ∧ gV d r = (noA, false)) := by
 unfold gV
 cases h : d.aq.find? (fun a => decide (a.ak = r)) with
 | some a => exact .inl ⟨a, List.mem_of_find?_eq_some h, by simpa using List.find?_some h, rfl⟩
 | none => exact .inr ⟨fun a ha => by simpa using List.find?_eq_none.1 h a ha, rfl⟩
theorem amE {d : aF} (h : Vd d) {a : aj} (ha : a ∈ d.aq) : gV d a.ak = (a, true) := by
 rcases qQ d a.ak with ⟨b, hb, he, hf⟩ | ⟨hn, _⟩
 ·rw [hf, h.uniq hb ha he]
 ·exact absurd rfl (hn a ha)
/-! links -/
def LkD (d : aF) (a b : Int) : Prop := ∃ x ∈ d.aq, ∃ y ∈ d.aq, x.ak = a ∧ y.ak = b ∧ (∃ p ∈ x.Links, p.bw = b) ∧ ∃ q ∈ y.Links, q.bw = a
theorem LkD.symm {d : aF} {a b : Int} (h : LkD d a b) : LkD d b a := by
 obtain ⟨x, hx, y, hy, e1, e2, p, q⟩ := h
 exact ⟨y, hy, x, hx, e2, e1, q, p⟩
def mkL (x : aj) (p : bu) (y : aj) (q : bu) : aQ := aQ.mk x.ak y.ak p.lM q.lM (if q.bY < p.bY then q.bY else p.bY)
/-- the link of x to y -/
def IsLy (x y : aj) (l : aQ) : Prop := ∃ p ∈ x.Links, ∃ q ∈ y.Links, x.ak < y.ak ∧ p.bw = y.ak ∧ q.bw = x.ak ∧ l = mkL x p y q
inductive Rd (d : aF) (at1 : Int) : Int → Prop
 | refl : Rd d at1 at1
 | step {a b : Int} (h : Rd d at1 a) (hl : LkD d a b) : Rd d at1 b
structure IsV (d : aF) (at1 : Int) (T : aD) : Prop where
 apR : T.aI.Pairwise (fun a b => a.ID < b.ID)
 apS : ∀ r, r ∈ T.aI ↔ ∃ a ∈ d.aq, Rd d at1 a.ak ∧ r = aY.mk a.ak a.aX
 apT : T.Links.Pairwise (fun a b => ltL a b = true)
 apU : ∀ l, l ∈ T.Links ↔ ∃ x ∈ d.aq, Rd d at1 x.ak ∧ ∃ y ∈ d.aq, IsLy x y l
theorem sZ {α : Type} {r : α → α → Prop} (hi : ∀ a, ¬ r a a) (ht : ∀ a b c, r a b → r b c → r a c) : ∀ {l m : List α}, l.Pairwise r → m.Pairwise r → (∀ x, x ∈ l ↔ x ∈ m) → l = m
 | [], [], _, _, _ => rfl
 | [], y :: m, _, _, h => by have := (h y).2 (by simp); simp at this
 | x :: l, [], _, _, h => by have := (h x).1 (by simp); simp at this
 | x :: l, y :: m, h1, h2, h => by
  rw [List.pairwise_cons] at h1 h2
  have hxy : x = y := by
   rcases List.mem_cons.1 ((h x).1 (by simp)) with e | e
   ·exact e
   rcases List.mem_cons.1 ((h y).2 (by simp)) with e' | e'
   ·exact e'.symm
   ·exact absurd (ht _ _ _ (h1.1 y e') (h2.1 x e)) (hi x)
  subst hxy
  congr 1
  refine sZ hi ht h1.2 h2.2 fun z => ?_
  have := h z
  simp only [List.mem_cons] at this
  constructor
  ·intro hz
   rcases this.1 (.inr hz) with q | q
   ·subst q; exact absurd (h1.1 _ hz) (hi _)
   ·exact q
  ·intro hz
   rcases this.2 (.inr hz) with q | q
   ·subst q; exact absurd (h2.1 _ hz) (hi _)
   ·exact q
theorem IsV.unique {d : aF} {at1 : Int} {T U : aD} (h1 : IsV d at1 T) (h2 : IsV d at1 U) : T = U := by
 obtain ⟨r1, l1⟩ := T
 obtain ⟨r2, l2⟩ := U
 have e1 : r1 = r2 := sZ (r := fun a b : aY => a.ID < b.ID) (fun a h => by omega) (fun a b c h h' => by omega) h1.apR h2.apR fun x => (h1.apS x).trans (h2.apS x).symm
 have e2 : l1 = l2 := sZ (r := fun a b : aQ => ltL a b = true) (fun a h => by simp [ltL] at h) (fun a b c h h' => uH a b c h h') h1.apT h2.apT fun x => (h1.apU x).trans (h2.apU x).symm
 rw [e1, e2]
def apV : aD := aD.mk [] []
/-- what a View is -/
def aen (d : aF) (at1 : Int) (T : aD) : Prop := (¬ ((∃ a ∈ d.aq, a.ak = at1) ∧ Vd d) ∧ T = apV) ∨ (((∃ a ∈ d.aq, a.ak = at1) ∧ Vd d) ∧ ∃ T0, IsV d at1 T0 ∧ T = if mF T0 = 0 then T0 else apV)
theorem aen.unique {d : aF} {at1 : Int} {T U : aD} (h1 : aen d at1 T) (h2 : aen d at1 U) : T = U := by
 rcases h1 with ⟨a, b⟩ | ⟨a, T0, b, c⟩ <;> rcases h2 with ⟨a', b'⟩ | ⟨a', U0, b', c'⟩
 ·rw [b, b']
 ·exact absurd a' a
 ·exact absurd a a'
 ·rw [c, c', b.unique b']
def rts (d : aF) : List Int := d.aq.map (·.ak)
theorem LkD.mem {d : aF} {a b : Int} (h : LkD d a b) : b ∈ rts d := by
 obtain ⟨x, hx, y, hy, e1, e2, _⟩ := h
 exact List.mem_map.2 ⟨y, hy, e2⟩
/-! ## the specification's View -/
theorem Vd.key {d : aF} (h : Vd d) {a : aj} {r : Int} (ha : a ∈ d.aq) (he : a.ak = r) : gV d r = (a, true) := by subst he; exact amE h ha
theorem amF {a b : aQ} : ltL a b = true ↔ a.A < b.A ∨ a.A = b.A ∧ a.B < b.B := by simp [ltL]
/-! ## the wU View -/
end Go.Proofs.YtpmifmdidfgpdaaGreat

/- Plain: streams of bits and what vu are written as, by both. No condition but bT bB stand in each. -/
namespace Go.Proofs.YtpmifmdidfgpdaaGreat
set_option linter.all false
open Go
def uT : List Int → Nat := List.foldl (fun a b => a * 256 + b.toNat) 0
theorem uh (l : List Int) (b : Int) : uT (l ++ [b]) = uT l * 256 + b.toNat := by simp [uT]
theorem aaT {α : Type} : ∀ {l : List α}, l ≠ [] → ∃ i b, l = i ++ [b] := fun {l} h => ⟨l.dropLast, l.getLast h, (List.dropLast_concat_getLast h).symm⟩
theorem acz : ∀ (n : Nat) (l m : List Int), l.length = n → m.length = n → (∀ b ∈ l, 0 ≤ b ∧ b < 256) → (∀ b ∈ m, 0 ≤ b ∧ b < 256) → uT l = uT m → l = m
 | 0, l, m, h1, h2, _, _, _ => by simp at h1 h2; rw [h1, h2]
 | n + 1, l, m, h1, h2, hl, hm, h => by
  obtain ⟨i, b, rfl⟩ := aaT (l := l) (by intro e; simp [e] at h1)
  obtain ⟨j, c, rfl⟩ := aaT (l := m) (by intro e; simp [e] at h2)
  rw [uh, uh] at h
  have hb := hl b (by simp)
  have hc := hm c (by simp)
  have e1 : b = c := by omega
  have e2 : uT i = uT j := by omega
  subst e1
  rw [acz n i j (by simpa using h1) (by simpa using h2) (fun x hx => hl x (by simp [hx])) (fun x hx => hm x (by simp [hx])) e2]
/-- bytes bB hold the B bits of a number V -/
structure SR (D : List Int) (B V : Nat) : Prop where
 by_ : ∀ b ∈ D, 0 ≤ b ∧ b < 256
 le : B ≤ 8 * D.length
 hi : 8 * D.length ≤ B + 8
 num : uT D = V * 2 ^ (8 * D.length - B)
theorem SR.unique {D E : List Int} {B V : Nat} (h1 : SR D B V) (h2 : SR E B V) (a : 8 * D.length < B + 8) (b : 8 * E.length < B + 8) : D = E := by
 have e : D.length = E.length := by have := h1.le; have := h2.le; omega
 exact acz _ D E rfl e.symm h1.by_ h2.by_ (by rw [h1.num, h2.num, e])
theorem SR.nil : SR [] 0 0 := ⟨by simp, by simp, by simp, by simp [uT]⟩
theorem SR.more {D : List Int} {B V : Nat} (h : SR D B V) (h8 : 8 * D.length = B) : SR (D ++ [0]) B V := by
 refine ⟨?_, by simp; omega, by simp; omega, ?_⟩
 ·intro b hb
  rcases List.mem_append.1 hb with hb | hb
  ·exact h.by_ b hb
  ·simp at hb; omega
 ·rw [uh, h.num]
  have e : 8 * (D ++ [(0:Int)]).length - B = 8 := by simp; omega
  rw [e]
  have e2 : 8 * D.length - B = 0 := by omega
  rw [e2]; simp
theorem SR.last {D : List Int} {b : Int} {B V : Nat} (h : SR (D ++ [b]) B V) (hf : B < 8 * (D.length + 1)) : 0 ≤ b ∧ b < 256 ∧ b.toNat % 2 ^ (8 * (D.length + 1) - B) = 0 := by
 have hb := h.by_ b (by simp)
 refine ⟨hb.1, hb.2, ?_⟩
 have hn := h.num
 have hh := h.hi
 simp only [List.length_append, List.length_cons, List.length_nil, Nat.zero_add] at hn hh
 rw [uh] at hn
 generalize hk : 8 * (D.length + 1) - B = k at hn ⊢
 have h1 : (256 : Nat) = 2 ^ k * 2 ^ (8 - k) := by rw [← Nat.pow_add, show k + (8 - k) = 8 by omega]
 have h2 : (uT D * 256 + b.toNat) % 2 ^ k = 0 := by rw [hn]; exact Nat.mul_mod_left _ _
 rw [h1, ← Nat.mul_assoc, Nat.mul_right_comm, Nat.mul_add_mod'] at h2
 exact h2
theorem SR.push {D : List Int} {b : Int} {B V k x : Nat} (h : SR (D ++ [b]) B V) (hk : 1 ≤ k) (hf : B + k ≤ 8 * (D.length + 1)) (hx : x < 2 ^ k) :
  SR (D ++ [b + (x * 2 ^ (8 * (D.length + 1) - B - k) : Nat)]) (B + k) (V * 2 ^ k + x) ∧ b.toNat + x * 2 ^ (8 * (D.length + 1) - B - k) < 256 ∧ x * 2 ^ (8 * (D.length + 1) - B - k) < 2 ^ (8 * (D.length + 1) - B) := by
 obtain ⟨b0, b1, b2⟩ := h.last (by omega)
 have hh := h.hi
 simp only [List.length_append, List.length_cons, List.length_nil, Nat.zero_add] at hh
 generalize hf0 : 8 * (D.length + 1) - B = f at b2 ⊢
 have hx2 : x * 2 ^ (f - k) < 2 ^ f := by
  have : 2 ^ f = 2 ^ k * 2 ^ (f - k) := by rw [← Nat.pow_add, show k + (f - k) = f by omega]
  rw [this]; exact Nat.mul_lt_mul_of_pos_right hx (Nat.two_pow_pos _)
 have hlt : b.toNat + x * 2 ^ (f - k) < 256 := by
  have e1 : (256 : Nat) = 2 ^ f * 2 ^ (8 - f) := by rw [← Nat.pow_add, show f + (8 - f) = 8 by omega]
  obtain ⟨q, hq⟩ := Nat.dvd_of_mod_eq_zero b2
  have hb8 : b.toNat < 2 ^ f * 2 ^ (8 - f) := by rw [← e1]; omega
  rw [hq] at hb8 ⊢
  have hq8 : q < 2 ^ (8 - f) := Nat.lt_of_mul_lt_mul_left hb8
  rw [e1]
  have s1 : 2 ^ f * (q + 1) ≤ 2 ^ f * 2 ^ (8 - f) := Nat.mul_le_mul_left _ hq8
  rw [Nat.mul_add, Nat.mul_one] at s1
  omega
 refine ⟨⟨?_, by simp; omega, by simp; omega, ?_⟩, hlt, hx2⟩
 ·intro y hy
  rcases List.mem_append.1 hy with hy | hy
  ·exact h.by_ y (by simp [hy])
  ·simp only [List.mem_singleton] at hy; omega
 ·have hn := h.num
  simp only [List.length_append, List.length_cons, List.length_nil, Nat.zero_add] at hn ⊢
  rw [uh] at hn ⊢
  rw [hf0] at hn
  rw [show 8 * (D.length + 1) - (B + k) = f - k by omega]
  have e : (b + (x * 2 ^ (f - k) : Nat)).toNat = b.toNat + x * 2 ^ (f - k) := by omega
  rw [e, Nat.add_mul, Nat.mul_assoc, ← Nat.pow_add, show k + (f - k) = f by omega]
  omega
theorem afd {b y f : Nat} (hb : b % 2 ^ f = 0) (hy : y < 2 ^ f) : b ||| y = b + y := by
 obtain ⟨q, rfl⟩ := Nat.dvd_of_mod_eq_zero hb
 rw [Nat.mul_comm, ← Nat.shiftLeft_eq, Nat.shiftLeft_add_eq_or_of_lt hy]
theorem afe (n : Int) : IntKind.wrap .u8 n = n % 256 := rfl
theorem amG (n : Int) : IntKind.wrap .u64 n = n % 18446744073709551616 := rfl
theorem wU8 {n : Nat} (h : n < 256) : IntKind.wrap .u8 (n : Int) = n := by rw [afe]; omega
theorem oO {n : Nat} (h : n < 18446744073709551616) : IntKind.wrap .u64 (n : Int) = n := by rw [amG]; omega
theorem or8 {a b : Nat} (ha : a < 256) (hb : b < 256) : cS .or .u8 a b = ((a ||| b : Nat) : Int) := by
 show IntKind.wrap .u8 ((BitVec.ofNat 8 a ||| BitVec.ofNat 8 b).toNat : Int) = _
 rw [BitVec.toNat_or, BitVec.toNat_ofNat, BitVec.toNat_ofNat, Nat.mod_eq_of_lt (show a < 2 ^ 8 from ha), Nat.mod_eq_of_lt (show b < 2 ^ 8 from hb)]
 exact wU8 (Nat.or_lt_two_pow (n := 8) ha hb)
theorem and8 {a b : Nat} (ha : a < 256) (hb : b < 256) : cS .and .u8 a b = ((a &&& b : Nat) : Int) := by
 show IntKind.wrap .u8 ((BitVec.ofNat 8 a &&& BitVec.ofNat 8 b).toNat : Int) = _
 rw [BitVec.toNat_and, BitVec.toNat_ofNat, BitVec.toNat_ofNat, Nat.mod_eq_of_lt (show a < 2 ^ 8 from ha), Nat.mod_eq_of_lt (show b < 2 ^ 8 from hb)]
 exact wU8 (Nat.lt_of_le_of_lt Nat.and_le_left ha)
theorem ajC {a b : Nat} (ha : a < 2 ^ 64) (hb : b < 2 ^ 64) : cS .and .u64 a b = ((a &&& b : Nat) : Int) := by
 show IntKind.wrap .u64 ((BitVec.ofNat 64 a &&& BitVec.ofNat 64 b).toNat : Int) = _
 rw [BitVec.toNat_and, BitVec.toNat_ofNat, BitVec.toNat_ofNat, Nat.mod_eq_of_lt ha, Nat.mod_eq_of_lt hb]
 exact oO (Nat.lt_of_le_of_lt Nat.and_le_left ha)
theorem apW {a : Nat} (ha : a < 256) : cS .and .u8 a 1 = ((a % 2 : Nat) : Int) := by
 have := and8 ha (show 1 < 256 by decide)
 rw [Nat.and_one_is_mod] at this; exact this
theorem aaU {a : Nat} (ha : a < 2 ^ 64) : cS .and .u64 a 1 = ((a % 2 : Nat) : Int) := by
 have := ajC ha (show 1 < 2 ^ 64 by decide)
 rw [Nat.and_one_is_mod] at this; exact this
theorem apX {a k : Nat} (ha : a < 2 ^ 64) (hk : k < 64) : cS .and .u64 a ((2 ^ k - 1 : Nat) : Int) = ((a % 2 ^ k : Nat) : Int) := by
 have hb : 2 ^ k - 1 < 2 ^ 64 := by have := Nat.pow_lt_pow_right (show 1 < 2 by decide) hk; omega
 rw [ajC ha hb, Nat.and_two_pow_sub_one_eq_mod]
theorem x8 (a k : Nat) : Int.fdiv (a : Int) (2 ^ k) = ((a / 2 ^ k : Nat) : Int) := by
 have : ((2 : Int) ^ k) = ((2 ^ k : Nat) : Int) := by norm_cast
 rw [this, Int.fdiv_eq_ediv_of_nonneg _ (Int.natCast_nonneg _)]; rfl
def pS : List UInt8 → List UInt8 → Int
 | [], [] => 0
 | [], _ :: _ => -1
 | _ :: _, [] => 1
 | a :: x, b :: y => if a = b then pS x y else if a < b then -1 else 1
theorem apY (l : List UInt8) (i : Nat) : (⟨l.toArray⟩ : ByteArray)[i]! = l[i]! := by
 by_cases h : i < l.length
 ·rw [getElem!_pos l i h, getElem!_pos (⟨l.toArray⟩ : ByteArray) i (by show i < l.toArray.size; simpa using h)]; rfl
 ·rw [getElem!_neg l i h, getElem!_neg (⟨l.toArray⟩ : ByteArray) i (by show ¬ i < l.toArray.size; simpa using h)]
theorem ah3 : ∀ (x y : List UInt8), Go.Extern.BytealgCompare.cmp ⟨x.toArray⟩ ⟨y.toArray⟩ = pS x y := by
 intro x y
 unfold Go.Extern.BytealgCompare.cmp
 simp only [apY]
 show (match (List.range (min x.length y.length)).find? fun i => x[i]! != y[i]! with
  | some i => if x[i]! < y[i]! then -1 else 1
  | none => if x.length < y.length then -1 else if x.length > y.length then 1 else 0) = pS x y
 induction x generalizing y with
 | nil => cases y <;> simp [pS]
 | cons a x ih =>
  cases y with
  | nil => simp [pS]
  | cons b y =>
   simp only [pS, List.length_cons]
   rw [show min (x.length + 1) (y.length + 1) = min x.length y.length + 1 by omega, List.range_succ_eq_map, List.find?_cons]
   by_cases h : a = b
   ·subst h
    rw [if_pos rfl, ← ih]
    simp only [List.getElem!_cons_zero, bne_self_eq_false, List.find?_map, Function.comp_def, Nat.succ_eq_add_one, List.getElem!_cons_succ]
    cases (List.range (min x.length y.length)).find? (fun i => x[i]! != y[i]!) <;> simp
   ·rw [if_neg h]
    have e : ((a :: x)[0]! != (b :: y)[0]!) = true := by simpa using h
    simp only [e]
    simp
theorem acA : ∀ (x y : List UInt8), 0 < pS x y ↔ (Go.Op.bytesLess x y = false ∧ x ≠ y)
 | [], [] => by simp [Go.Op.bytesLess, pS]
 | [], _ :: _ => by simp [Go.Op.bytesLess, pS]
 | _ :: _, [] => by simp [Go.Op.bytesLess, pS]
 | a :: x, b :: y => by
  simp only [Go.Op.bytesLess, pS]
  by_cases h : a = b
  ·subst h
   rw [if_pos rfl, acA x y]
   have : ¬ a < a := UInt8.lt_irrefl a
   simp [this]
  ·rw [if_neg h]
   by_cases h2 : a < b
   ·simp [h2]
   ·simp [h2, h]
theorem aff (x y : List UInt8) : (!(Go.Op.bytesLess x y || x == y)) = decide (0 < pS x y) := by
 rw [Bool.eq_iff_iff, decide_eq_true_iff, acA]
 cases Go.Op.bytesLess x y <;> simp
/-- a stream bB holds the B bits of V -/
structure Str (s : aZ) (B V : Nat) : Prop where
 b : s.Bits = B
 r : SR s.Data B V
 t : 8 * s.Data.length < B + 8
theorem Str.nil : Str (aZ.mk [] 0) 0 0 := ⟨rfl, SR.nil, by simp⟩
theorem Str.unique {s u : aZ} {B V : Nat} (h1 : Str s B V) (h2 : Str u B V) : s = u := by
 have := h1.r.unique h2.r h1.t h2.t
 obtain ⟨d, n⟩ := s
 obtain ⟨e, m⟩ := u
 have a := h1.b; have b := h2.b
 simp only at this a b
 subst this; rw [a, b]
theorem Str.split {s : aZ} {B V : Nat} (h : Str s B V) (hf : 8 * s.Data.length ≠ B) : ∃ i b, s.Data = i ++ [b] ∧ 8 * (i.length + 1) = 8 * s.Data.length := by
 have := h.r.le
 obtain ⟨i, b, e⟩ := aaT (l := s.Data) (by intro e; simp [e] at *; omega)
 exact ⟨i, b, e, by rw [e]; simp⟩
theorem wj {α : Type} (i : List α) (b : α) {n : Int} (h : n = i.length) : elO (i ++ [b]) n = some b := by subst h; exact iq i b []
theorem abh {α : Type} (i : List α) (b c : α) {n : Int} (h : n = i.length) : iL (i ++ [b]) n c = some (i ++ [c]) := by
 subst h
 unfold iL
 rw [if_pos ⟨by omega, by simp; omega⟩]
 simp
theorem acZ {n : Nat} (h : n ≤ 100000) : nv n = some (((n + 7) / 8 : Nat) : Int) := by
 unfold nv
 have e : Int.tdiv ((n : Int) + 7) 8 = (((n + 7) / 8 : Nat) : Int) := by rw [Int.tdiv_eq_ediv_of_nonneg (by omega)]; omega
 rw [ct (n := (n : Int) + 7) (by omega) (by omega), e, ct (by omega) (by omega)]
theorem yB {s : aZ} {B V : Nat} (h : Str s B V) (hB : B ≤ 8192) : kR s = some true := by
 have hle := h.r.le; have ht := h.t; have hb := h.b
 refine Ok.eq ?_
 unfold kR
 refine Ok.jn (fun v => v = false) (fun v hv => ?_) (fun J hJ => ?_)
 ·subst hv
  rw [cond_false, hb, ct (n := 8 * (s.Data.length : Int)) (by omega) (by omega), ct (n := 8 * (s.Data.length : Int) - B) (by omega) (by omega)]
  refine Ok.cs (fun _ => Ok.s rfl) fun hc => ?_
  have hc : 8 * (s.Data.length : Int) - B ≠ 0 := by simpa using hc
  obtain ⟨i, b, hD, hi⟩ := h.split (by omega)
  have hl := h.r
  rw [hD] at hl
  obtain ⟨b0, b1, b2⟩ := hl.last (by omega)
  rw [ct (n := (s.Data.length : Int) - 1) (by omega) (by omega), hD, wj i b (by simp), aP]
  have e : 8 * ((i ++ [b]).length : Int) - B = ((8 * (i.length + 1) - B : Nat) : Int) := by simp; omega
  rw [e]
  generalize hf : 8 * (i.length + 1) - B = f at b2 ⊢
  rw [ct (n := (8 : Int) - (f : Int)) (by omega) (by omega)]
  refine Ok.chk (by simp; omega) (Ok.s ?_)
  obtain ⟨q, hq⟩ := Nat.dvd_of_mod_eq_zero b2
  have e2 : min ((8 : Int) - f).toNat 8 = 8 - f := by omega
  rw [e2, show b = ((b.toNat : Nat) : Int) by omega, hq]
  have e3 : (((2 ^ f * q : Nat) : Int) * 2 ^ (8 - f)) = ((256 * q : Nat) : Int) := by
   have e1 : (256 : Nat) = 2 ^ f * 2 ^ (8 - f) := by rw [← Nat.pow_add, show f + (8 - f) = 8 by omega]
   rw [e1, Nat.mul_assoc, Nat.mul_comm (2 ^ (8 - f)) q, ← Nat.mul_assoc]
   push_cast; rfl
  rw [e3, afe]
  simp
 ·rw [hb, acZ (by omega)]
  refine Ok.cs (fun hc => by simp at hc; omega) fun _ => ?_
  refine Ok.cs (fun hc => by simp at hc; omega) fun _ => ?_
  rw [aP]
  exact hJ _ (by simp; omega)
theorem ac0 {s : aZ} {B V v n : Nat} (h : Str s B V) (hn : n ≤ 64) (hv : v < 2 ^ n) (hB : B + n ≤ 8192) : Ok (nw s v n) (fun u => Str u (B + n) (V * 2 ^ n + v)) := by
 unfold nw
 have aeo : v < 2 ^ 64 := Nat.lt_of_lt_of_le hv (Nat.pow_le_pow_right (by decide) hn)
 refine Ok.whl (fun sg : Int × List Int × Int => ∃ (r k : Nat) (D : List Int), sg = ((r : Int), D, ((B + k : Nat) : Int)) ∧ r + k = n ∧ SR D (B + k) (V * 2 ^ k + v / 2 ^ r) ∧ 8 * D.length < B + k + 8) (fun sg => sg.1.toNat) ⟨n, 0, s.Data, by rw [h.b]; rfl, by simp, by
   rw [Nat.div_eq_of_lt hv]; simpa using h.r, by simpa using h.t⟩ (by simp only; omega) ?_
 rintro _ Z ⟨r, k, D, rfl, hrk, hr, ht⟩ hZ
 have hle := hr.le
 simp only
 refine Ok.cs (fun hc => ?_) fun hc => ?_
 ·have hr0 : 0 < r := by simpa using hc
  rw [ct (n := 8 * (D.length : Int)) (by omega) (by omega), ct (n := 8 * (D.length : Int) - ((B + k : Nat) : Int)) (by omega) (by omega)]
  refine Ok.jn (fun sg : Int × List Int => ∃ (i : List Int) (b : Int) (f : Nat), sg = ((f : Int), i ++ [b]) ∧ SR (i ++ [b]) (B + k) (V * 2 ^ k + v / 2 ^ r) ∧ 8 * (i.length + 1) - (B + k) = f ∧ 1 ≤ f ∧ f ≤ 8) ?_ ?_
  ·rintro _ ⟨i, b, f, rfl, hs, hf, hf1, hf8⟩
   simp only
   obtain ⟨m, hm⟩ : ∃ m : Nat, (if (f : Int) < r then (f : Int) else r) = m ∧ 1 ≤ m ∧ m ≤ f ∧ m ≤ r := by
    by_cases h : (f : Int) < r
    ·exact ⟨f, by rw [if_pos h], by omega, by omega, by omega⟩
    ·exact ⟨r, by rw [if_neg h], by omega, by omega, by omega⟩
   obtain ⟨hm, hm1, hmf, hmr⟩ := hm
   rw [hm]
   have e1 : w64 ((r : Int) - m) = ((r - m : Nat) : Int) := by rw [ct (by omega) (by omega)]; omega
   have e2 : w64 ((f : Int) - m) = ((f - m : Nat) : Int) := by rw [ct (by omega) (by omega)]; omega
   have e3 : w64 (((i ++ [b]).length : Int) - 1) = i.length := by
    have := hs.le; have := hs.hi
    simp at *
    rw [ct (by omega) (by omega)]
   have e4 : w64 (((B + k : Nat) : Int) + m) = ((B + (k + m) : Nat) : Int) := by rw [ct (by omega) (by omega)]; omega
   rw [e1, e2, e3, e4]
   refine Ok.chk (by simp) (Ok.chk (by simp) ?_)
   rw [wj i b rfl, aP]
   refine Ok.chk (by simp) ?_
   have hsl := hs.last (by omega)
   have e5 : Int.fdiv (v : Int) (2 ^ min ((r - m : Nat) : Int).toNat 64) = ((v / 2 ^ (r - m) : Nat) : Int) := by
    rw [show min ((r - m : Nat) : Int).toNat 64 = r - m by omega, x8]
   have e6 : IntKind.wrap .u64 (IntKind.wrap .u64 ((1 : Int) * 2 ^ min (m : Int).toNat 64) - 1) = ((2 ^ m - 1 : Nat) : Int) := by
    rw [show min (m : Int).toNat 64 = m by omega]
    have hp : 2 ^ m ≤ 2 ^ 8 := Nat.pow_le_pow_right (by decide) (by omega)
    have hp0 : 0 < 2 ^ m := Nat.two_pow_pos m
    have : (1 : Int) * 2 ^ m = ((2 ^ m : Nat) : Int) := by push_cast; omega
    rw [this, oO (by omega), show ((2 ^ m : Nat) : Int) - 1 = ((2 ^ m - 1 : Nat) : Int) by omega, oO (by omega)]
   rw [e5, e6, apX (Nat.lt_of_le_of_lt (Nat.div_le_self _ _) aeo) (by omega)]
   obtain ⟨hp1, hp2, hp3⟩ := hs.push (k := m) (x := v / 2 ^ (r - m) % 2 ^ m) hm1 (by omega) (Nat.mod_lt _ (Nat.two_pow_pos _))
   rw [hf] at hp1 hp2 hp3
   generalize hx : v / 2 ^ (r - m) % 2 ^ m = x at hp1 hp2 hp3 ⊢
   have e7 : (x : Int) * 2 ^ min ((f - m : Nat) : Int).toNat 64 = ((x * 2 ^ (f - m) : Nat) : Int) := by
    rw [show min ((f - m : Nat) : Int).toNat 64 = f - m by omega]; push_cast; rfl
   have hy : x * 2 ^ (f - m) < 256 := by omega
   rw [e7, oO (by omega), wU8 (by omega)]
   rw [hf] at hsl
   have e8 : cS .or .u8 b ((x * 2 ^ (f - m) : Nat) : Int) = b + ((x * 2 ^ (f - m) : Nat) : Int) := by
    obtain ⟨hb0, hb1, hb2⟩ := hsl
    have := or8 (a := b.toNat) (b := x * 2 ^ (f - m)) (by omega) hy
    rw [show ((b.toNat : Nat) : Int) = b by omega] at this
    rw [this, afd hb2 hp3]; omega
   rw [e8, abh i b _ rfl, aP]
   refine hZ _ ⟨r - m, k + m, _, rfl, by omega, ?_, ?_⟩ (by simp only; omega)
   ·rw [← Nat.add_assoc]
    have e9 : (V * 2 ^ k + v / 2 ^ r) * 2 ^ m + x = V * 2 ^ (k + m) + v / 2 ^ (r - m) := by
     have d1 : v / 2 ^ r = v / 2 ^ (r - m) / 2 ^ m := by rw [Nat.div_div_eq_div_mul, ← Nat.pow_add, show r - m + m = r by omega]
     rw [Nat.add_mul, Nat.mul_assoc, ← Nat.pow_add, d1, ← hx]
     have := Nat.div_add_mod (v / 2 ^ (r - m)) (2 ^ m)
     rw [Nat.mul_comm (2 ^ m)] at this
     omega
    rw [← e9]; exact hp1
   ·simp; omega
  ·intro J hJ
   refine Ok.cs (fun hc => ?_) fun hc => ?_
   ·have hc : 8 * (D.length : Int) - ((B + k : Nat) : Int) = 0 := by simpa using hc
    rw [dP (by simp; omega), aP]
    exact hJ _ ⟨D, 0, 8, rfl, hr.more (by omega), by omega, by omega, by omega⟩
   ·have hc : 8 * (D.length : Int) - ((B + k : Nat) : Int) ≠ 0 := by simpa using hc
    have hst : Str (aZ.mk D ((B + k : Nat) : Int)) (B + k) (V * 2 ^ k + v / 2 ^ r) := ⟨rfl, hr, ht⟩
    obtain ⟨i, b, hD, hi⟩ := hst.split (by simp only; omega)
    simp only at hD hi
    refine hJ _ ⟨i, b, 8 * D.length - (B + k), ?_, by rw [← hD]; exact hr, by omega, by omega, by omega⟩
    rw [← hD]; simp; omega
 ·have hr0 : r = 0 := by simpa using hc
  subst hr0
  obtain rfl : k = n := by omega
  refine Ok.s ⟨rfl, ?_, by simpa using ht⟩
  simpa using hr
theorem acB {s : aZ} {B V v n : Nat} (h : Str s B V) (hn : n ≤ 64) (hv : v < 2 ^ n) (hB : B + n ≤ 8192) : Ok (mw s v n) (fun u => Str u.1 (B + n) (V * 2 ^ n + v) ∧ u.2 = 0) := by
 unfold mw
 have hle := h.r.le; have ht := h.t; have hb := h.b
 rw [yB h (by omega), aP]
 simp only [Bool.not_true, cond_false]
 refine Ok.jn (fun v => v = false) (fun v1 hv1 => ?_) fun J hJ => ?_
 ·subst hv1
  rw [cond_false, hb, ct (by omega) (by omega)]
  refine Ok.cs (fun hc => by simp at hc; omega) fun _ => ?_
  unfold pE
  rw [dP (by simp; omega), aP, aP]
  refine Ok.bnd (ac0 (B := B) (V := V) (s := aZ.mk ([] ++ s.Data) s.Bits) ⟨hb, by simpa using h.r, by simpa using ht⟩ hn hv hB) fun u hu => Ok.s ⟨hu, rfl⟩
 ·refine Ok.cs (fun hc => by simp at hc; omega) fun _ => ?_
  refine Ok.cs (fun hc => by simp at hc; omega) fun _ => ?_
  refine Ok.cs (fun hc => ?_) fun _ => hJ _ rfl
  have hn2 : n < 64 := by simp at hc; omega
  refine Ok.chk (by simp) (hJ _ ?_)
  rw [show min ((n : Nat) : Int).toNat 64 = n by omega, x8, Nat.div_eq_of_lt hv]; simp
theorem acC {i : List Int} {b : Int} {k : Nat} (h0 : 0 ≤ b) (h1 : b < 256) (hk : 8 * i.length ≤ k) (hk2 : k < 8 * (i.length + 1)) (hl : k ≤ 100000) : jY (i ++ [b]) (k : Int) = some ((b.toNat / 2 ^ (7 - k % 8) % 2 : Nat) : Int) := by
 unfold jY
 have e1 : Int.tdiv (k : Int) 8 = i.length := by rw [Int.tdiv_eq_ediv_of_nonneg (by omega)]; omega
 have e2 : Int.tmod (k : Int) 8 = ((k % 8 : Nat) : Int) := by rw [Int.tmod_eq_emod_of_nonneg (by omega)]; omega
 have e3 : (7 : Int) - ((k % 8 : Nat) : Int) = ((7 - k % 8 : Nat) : Int) := by omega
 rw [e1, e2, e3, ct (by omega) (by omega), wj i b rfl, aP, ct (by omega) (by omega), oO (by omega)]
 rw [nj (by simp)]
 have e4 : min ((7 - k % 8 : Nat) : Int).toNat 8 = 7 - k % 8 := by omega
 have hlt : b.toNat / 2 ^ (7 - k % 8) < 256 := Nat.lt_of_le_of_lt (Nat.div_le_self _ _) (by omega)
 have e5 : Int.fdiv b (2 ^ (7 - k % 8)) = ((b.toNat / 2 ^ (7 - k % 8) : Nat) : Int) := by
  rw [← x8, show ((b.toNat : Nat) : Int) = b by omega]
 rw [e4, e5, oO (by omega), aaU (by omega)]
theorem rQ {s : aZ} {B V : Nat} (h : Str s B V) (hB : B ≤ 8192) : jH s = some true := by
 have hle := h.r.le; have ht := h.t; have hb := h.b
 refine Ok.eq ?_
 unfold jH
 rw [hb]
 have e1 : Int.tdiv (w64 ((B : Int) + 7)) 8 = ((s.Data.length : Nat) : Int) := by rw [ct (by omega) (by omega), Int.tdiv_eq_ediv_of_nonneg (by omega)]; omega
 rw [e1, ct (n := (s.Data.length : Int)) (by omega) (by omega), ct (n := 8 * (s.Data.length : Int)) (by omega) (by omega)]
 refine Ok.cs (fun hc => by simp at hc; omega) fun _ => ?_
 refine Ok.whl (fun i : Int => (B : Int) ≤ i ∧ i ≤ 8 * s.Data.length) (fun i => (8 * (s.Data.length : Int) - i).toNat) ⟨by omega, by omega⟩ (by omega) ?_
 rintro i Z ⟨h1, h2⟩ hZ
 refine Ok.cs (fun hc => ?_) fun _ => Ok.s rfl
 have hc : i < 8 * (s.Data.length : Int) := by simpa using hc
 obtain ⟨p, b, hD, hi⟩ := h.split (by omega)
 have hl := h.r
 rw [hD] at hl
 obtain ⟨b0, b1, b2⟩ := hl.last (by omega)
 obtain ⟨k, rfl⟩ : ∃ k : Nat, i = k := ⟨i.toNat, by omega⟩
 rw [hD, acC b0 b1 (by omega) (by omega) (by omega), aP]
 have hbit : b.toNat / 2 ^ (7 - k % 8) % 2 = 0 := by
  obtain ⟨q, hq⟩ := Nat.dvd_of_mod_eq_zero b2
  generalize hf : 8 * (p.length + 1) - B = f at hq
  have : 2 ^ f = 2 ^ (7 - k % 8) * (2 * 2 ^ (f - (7 - k % 8) - 1)) := by
   rw [← Nat.pow_succ', ← Nat.pow_add]; congr 1; omega
  rw [hq, this, Nat.mul_assoc, Nat.mul_div_cancel_left _ (Nat.two_pow_pos _), Nat.mul_assoc]
  exact Nat.mul_mod_right _ _
 rw [hbit]
 refine Ok.cs (fun hc => by simp at hc) fun _ => ?_
 rw [ct (by omega) (by omega)]
 exact hZ _ ⟨by omega, by omega⟩ (by omega)
theorem abi {s : aZ} {B V b : Nat} (h : Str s B V) (hb1 : b < 2) (hB : B + 1 ≤ 8192) : Ok (nG s b) (fun u => Str u (B + 1) (V * 2 + b)) := by
 have hle := h.r.le; have ht := h.t; have hb := h.b
 unfold nG
 rw [hb]
 have e1 : Int.tdiv (B : Int) 8 = ((B / 8 : Nat) : Int) := by rw [Int.tdiv_eq_ediv_of_nonneg (by omega)]; omega
 have e2 : Int.tmod (B : Int) 8 = ((B % 8 : Nat) : Int) := by rw [Int.tmod_eq_emod_of_nonneg (by omega)]; omega
 have e3 : (7 : Int) - ((B % 8 : Nat) : Int) = ((7 - B % 8 : Nat) : Int) := by omega
 rw [e1, e2, e3, ct (by omega) (by omega), ct (by omega) (by omega), ct (by omega) (by omega), oO (by omega)]
 refine Ok.bnd (P := fun l => l = s.Data) ⟨_, dP (by simp; omega), by simp⟩ ?_
 rintro _ rfl
 refine Ok.jn (fun l => ∃ (i : List Int) (c : Int), l = i ++ [c] ∧ SR (i ++ [c]) B V ∧ i.length = B / 8) ?_ ?_
 ·rintro _ ⟨i, c, rfl, hs, hi⟩
  refine Ok.jn (fun l => SR l (B + 1) (V * 2 + b) ∧ 8 * l.length < B + 1 + 8) (fun l hl => Ok.s ⟨rfl, hl.1, hl.2⟩) fun J hJ => ?_
  obtain ⟨hp1, hp2, hp3⟩ := hs.push (k := 1) (x := b) (by omega) (by omega) (by omega)
  refine Ok.cs (fun hc => ?_) fun hc => ?_
  ·have hc : b = 1 := by simp at hc; omega
   subst hc
   rw [wj i c (by omega), aP, nj (by simp)]
   obtain ⟨c0, c1, c2⟩ := hs.last (by omega)
   have e5 : min ((7 - B % 8 : Nat) : Int).toNat 8 = 8 * (i.length + 1) - B - 1 := by omega
   have e6 : (1 : Int) * 2 ^ (8 * (i.length + 1) - B - 1) = ((1 * 2 ^ (8 * (i.length + 1) - B - 1) : Nat) : Int) := by push_cast; rfl
   rw [e5, e6, wU8 (by omega)]
   have e8 : cS .or .u8 c ((1 * 2 ^ (8 * (i.length + 1) - B - 1) : Nat) : Int) = c + ((1 * 2 ^ (8 * (i.length + 1) - B - 1) : Nat) : Int) := by
    have := or8 (a := c.toNat) (b := 1 * 2 ^ (8 * (i.length + 1) - B - 1)) (by omega) (by omega)
    rw [show ((c.toNat : Nat) : Int) = c by omega] at this
    rw [this, afd c2 hp3]; omega
   rw [e8, abh i c _ (by omega), aP]
   exact hJ _ ⟨by simpa using hp1, by simp; omega⟩
  ·have hc : b = 0 := by simp at hc; omega
   subst hc
   refine hJ _ ⟨by simpa using hp1, by simp; omega⟩
 ·intro J hJ
  refine Ok.cs (fun hc => ?_) fun hc => ?_
  ·have hc : B % 8 = 0 := by simp at hc; omega
   rw [dP (by simp; omega), aP]
   exact hJ _ ⟨s.Data, 0, rfl, h.r.more (by omega), by omega⟩
  ·have hc : B % 8 ≠ 0 := by simp at hc; omega
   obtain ⟨i, c, hD, hi⟩ := h.split (by omega)
   exact hJ _ ⟨i, c, hD, hD ▸ h.r, by omega⟩
theorem acD {s : aZ} {B V v n : Nat} (h : Str s B V) (hn : n ≤ 64) (hv : v < 2 ^ n) (hB : B + n ≤ 8192) : Ok (mz s v n) (fun u => Str u.1 (B + n) (V * 2 ^ n + v) ∧ u.2 = 0) := by
 unfold mz
 have hb := h.b
 have aeo : v < 2 ^ 64 := Nat.lt_of_lt_of_le hv (Nat.pow_le_pow_right (by decide) hn)
 rw [rQ h (by omega), aP]
 simp only [Bool.not_true, cond_false]
 refine Ok.jn (fun v => v = false) (fun v1 hv1 => ?_) fun J hJ => ?_
 ·subst hv1
  rw [cond_false, hb, ct (n := (B : Int) + n) (by omega) (by omega)]
  refine Ok.cs (fun hc => by simp at hc; omega) fun _ => ?_
  refine Ok.whl (fun sg : Int × List Int × Int => ∃ (r k : Nat), sg.1 = (r : Int) - 1 ∧ r + k = n ∧ Str (aZ.mk sg.2.1 sg.2.2) (B + k) (V * 2 ^ k + v / 2 ^ r)) (fun sg => (sg.1 + 1).toNat) ⟨n, 0, by simp only; rw [ct (by omega) (by omega)], by simp, by
   rw [Nat.div_eq_of_lt hv]; simp only [Nat.add_zero, Nat.pow_zero, Nat.mul_one]; rw [← hb]; exact h⟩ (by simp only; rw [ct (by omega) (by omega)]; omega) ?_
  rintro ⟨i, D, N⟩ Z ⟨r, k, hi, hrk, hs⟩ hZ
  simp only at hi hs ⊢
  subst hi
  refine Ok.cs (fun hc => ?_) fun hc => ?_
  ·have hr : 1 ≤ r := by simp at hc; omega
   have e : ((r : Int) - 1) = ((r - 1 : Nat) : Int) := by omega
   rw [e, oO (by omega)]
   refine Ok.chk (by simp) ?_
   rw [show min ((r - 1 : Nat) : Int).toNat 64 = r - 1 by omega, x8, aaU (Nat.lt_of_le_of_lt (Nat.div_le_self _ _) aeo)]
   refine Ok.bnd (abi hs (Nat.mod_lt _ (by omega)) (by omega)) fun u hu => ?_
   rw [ct (by omega) (by omega)]
   refine hZ _ ⟨r - 1, k + 1, rfl, by omega, ?_⟩ (by simp only; omega)
   have e9 : (V * 2 ^ k + v / 2 ^ r) * 2 + v / 2 ^ (r - 1) % 2 = V * 2 ^ (k + 1) + v / 2 ^ (r - 1) := by
    have d1 : v / 2 ^ r = v / 2 ^ (r - 1) / 2 := by
     rw [Nat.div_div_eq_div_mul, ← Nat.pow_succ]; congr 2; omega
    rw [Nat.pow_succ, d1, Nat.add_mul, Nat.mul_assoc]
    omega
   rw [← Nat.add_assoc, ← e9]; exact hu
  ·have hr : r = 0 := by simp at hc; omega
   subst hr
   obtain rfl : k = n := by omega
   refine Ok.s ⟨by simpa using hs, rfl⟩
 ·refine Ok.cs (fun hc => by simp at hc; omega) fun _ => ?_
  refine Ok.cs (fun hc => by simp at hc; omega) fun _ => ?_
  refine Ok.cs (fun hc => ?_) fun _ => hJ _ rfl
  have hn2 : n < 64 := by simp at hc; omega
  rw [oO (by omega)]
  refine Ok.chk (by simp) (hJ _ ?_)
  rw [show min ((n : Nat) : Int).toNat 64 = n by omega, x8, Nat.div_eq_of_lt hv]; simp
theorem z7 {σ β : Type} {B B' : Int → (σ → Option β) → σ → Option β} {K K' : Int → σ → Option β} : ∀ (n : Nat) (i : Int) (s : σ), (∀ (j : Int) s Z Z', i ≤ j → j < i + n → (∀ s, Z s = Z' s) → B j Z s = B' j Z' s) → (∀ s, K (i + n) s = K' (i + n) s) → gr n i B K s = gr n i B' K' s
 | 0, i, s, _, hk => by simpa [gr] using hk s
 | n + 1, i, s, hb, hk => by
  simp only [gr]
  refine hb i s _ _ (by omega) (by omega) fun s' => ?_
  refine z7 n (i + 1) s' (fun j s Z Z' h1 h2 hz => hb j s Z Z' (by omega) (by omega) hz) fun s => ?_
  have := hk s
  rw [show i + 1 + (n : Int) = i + ((n + 1 : Nat) : Int) by omega]; exact this
theorem afg {s : aZ} {i : Nat} (hb : ∀ b ∈ s.Data, 0 ≤ b ∧ b < 256) (hi : i < 8 * s.Data.length) (hl : i ≤ 100000) : ∃ x : Int, oT s (i : Int) = some x ∧ jY s.Data (i : Int) = some x := by
 have e1 : Int.tdiv (i : Int) 8 = ((i / 8 : Nat) : Int) := by rw [Int.tdiv_eq_ediv_of_nonneg (by omega)]; omega
 have e2 : Int.tmod (i : Int) 8 = ((i % 8 : Nat) : Int) := by rw [Int.tmod_eq_emod_of_nonneg (by omega)]; omega
 have e3 : (7 : Int) - ((i % 8 : Nat) : Int) = ((7 - i % 8 : Nat) : Int) := by omega
 obtain ⟨e, he, hm, _⟩ := (qN (l := s.Data) (i := ((i / 8 : Nat) : Int)) (by omega) (by omega)).get
 have hbe := hb e hm
 have e4 : min ((7 - i % 8 : Nat) : Int).toNat 8 = 7 - i % 8 := by omega
 have hlt : e.toNat / 2 ^ (7 - i % 8) < 256 := Nat.lt_of_le_of_lt (Nat.div_le_self _ _) (by omega)
 have e5 : Int.fdiv e (2 ^ (7 - i % 8)) = ((e.toNat / 2 ^ (7 - i % 8) : Nat) : Int) := by
  rw [← x8, show ((e.toNat : Nat) : Int) = e by omega]
 refine ⟨((e.toNat / 2 ^ (7 - i % 8) % 2 : Nat) : Int), ?_, ?_⟩
 ·unfold oT
  rw [e1, e2, e3, ct (by omega) (by omega), he, aP, ct (by omega) (by omega), nj (by simp), e4, e5, apW hlt, oO (by omega)]
 ·unfold jY
  rw [e1, e2, e3, ct (by omega) (by omega), he, aP, ct (by omega) (by omega), oO (by omega), nj (by simp), e4, e5, oO (by omega), aaU (by omega)]
theorem aug (x : Int) : ∃ n : Nat, cS .and .u64 x 65535 = n ∧ n < 65536 := by
 refine ⟨(BitVec.ofInt 64 x &&& BitVec.ofInt 64 65535).toNat, ?_, ?_⟩
 ·show IntKind.wrap .u64 _ = _
  exact oO (BitVec.isLt _)
 ·rw [BitVec.toNat_and]
  exact Nat.lt_of_le_of_lt Nat.and_le_right (by decide)
theorem auh {n : Nat} (h : n < 65536) : ∃ m : Nat, cS .xor .u64 n 4129 = m ∧ m < 65536 := by
 refine ⟨n ^^^ 4129, ?_, Nat.xor_lt_two_pow (n := 16) h (by decide)⟩
 show IntKind.wrap .u64 ((BitVec.ofNat 64 n ^^^ BitVec.ofNat 64 4129).toNat : Int) = _
 rw [BitVec.toNat_xor, BitVec.toNat_ofNat, BitVec.toNat_ofNat, Nat.mod_eq_of_lt (show n < 2 ^ 64 by omega), Nat.mod_eq_of_lt (show 4129 < 2 ^ 64 by decide)]
 exact oO (Nat.lt_trans (Nat.xor_lt_two_pow (n := 16) h (by decide)) (by decide))
theorem aep {s : aZ} {B V : Nat} (h : Str s B V) (hB : B ≤ 8192) : ∃ c : Nat, c < 65536 ∧ kS s = some ((c : Int), 0) ∧ iz s = some ((c : Int), 0) := by
 have hle := h.r.le; have ht := h.t; have hb := h.b
 have key : kS s = iz s := by
  unfold kS iz
  rw [yB h hB, rQ h hB]
  simp only [aP, Bool.not_true, cond_false]
  congr 1
  refine z7 _ _ _ ?_ fun s => rfl
  intro j r Z Z' h1 h2 hz
  obtain ⟨x, hx1, hx2⟩ := afg (s := s) (i := j.toNat) h.r.by_ (by omega) (by omega)
  rw [show ((j.toNat : Nat) : Int) = j by omega] at hx1 hx2
  simp only [jn, hx1, hx2, aP, hz]
  by_cases hc : Int.fdiv r (2 ^ min (15 : Int).toNat 64) = x <;> simp [hc]
 rw [key]
 have : Ok (iz s) (fun p => ∃ c : Nat, c < 65536 ∧ p = ((c : Int), 0)) := by
  unfold iz
  rw [rQ h hB, aP]
  simp only [Bool.not_true, cond_false]
  refine Ok.chk (by simp; omega) ?_
  refine Ok.gr (fun _ (r : Int) => ∃ c : Nat, c < 65536 ∧ r = c) 0 s.Bits ?_ ?_ _ _ _ (by simp) (by omega) (by omega) ⟨65535, by decide, rfl⟩
  ·rintro i r Z h1 h2 ⟨c, hc, rfl⟩ hZ
   refine Ok.jn (fun r => ∃ c : Nat, c < 65536 ∧ r = c) (fun r hr => hZ _ hr) fun J hJ => ?_
   obtain ⟨x, hx1, hx2⟩ := afg (s := s) (i := i.toNat) h.r.by_ (by omega) (by omega)
   rw [show ((i.toNat : Nat) : Int) = i by omega] at hx2
   rw [hx2, aP]
   obtain ⟨n, hn, hn2⟩ := aug (IntKind.wrap .u64 ((c : Int) * 2 ^ min (1 : Int).toNat 64))
   rw [hn]
   refine Ok.cs (fun _ => ?_) fun _ => hJ _ ⟨n, hn2, rfl⟩
   obtain ⟨m, hm, hm2⟩ := auh hn2
   rw [hm]
   exact hJ _ ⟨m, hm2, rfl⟩
  ·rintro i r h1 h2 ⟨c, hc, rfl⟩
   exact Ok.s ⟨c, hc, rfl⟩
 obtain ⟨_, hp, c, hc, rfl⟩ := this
 exact ⟨c, hc, hp, hp⟩
/-- one field more, by both -/
theorem ah4 {s : aZ} {B V v n : Nat} (h : Str s B V) (hn : n ≤ 64) (hv : v < 2 ^ n) (hB : B + n ≤ 8192) : ∃ u, bR (bK.mk s) v n = some (bK.mk u) ∧ cZ s v n = some u ∧ Str u (B + n) (V * 2 ^ n + v) := by
 have aeo : v < 2 ^ 64 := Nat.lt_of_lt_of_le hv (Nat.pow_le_pow_right (by decide) hn)
 obtain ⟨p, hp, hs, _⟩ := acB h hn hv hB
 obtain ⟨q, hq, ht, _⟩ := acD h hn hv hB
 have e := hs.unique ht
 refine ⟨p.1, ?_, ?_, hs⟩
 ·unfold bR
  rw [oO (by omega), hp]; rfl
 ·unfold cZ
  rw [oO (by omega), hq, e]; rfl
/-- two loops side by side, through the same states -/
theorem abj {α σ β γ : Type} {B1 : Int → α → (σ → Option β) → σ → Option β} {B2 : Int → α → (σ → Option γ) → σ → Option γ} {L : List α} (I : Nat → σ → Prop)
  (hc : ∀ (j : Nat) x s, L[j]? = some x → I j s → ∃ s', I (j + 1) s' ∧ (∀ Z, B1 (j : Int) x Z s = Z s') ∧ ∀ Z, B2 (j : Int) x Z s = Z s') (s : σ) (h : I 0 s) :
  ∃ s', I L.length s' ∧ (∀ K, bN L 0 B1 K s = K s') ∧ ∀ K, bN L 0 B2 K s = K s' := by
 have key : ∀ (l p : List α) (s : σ), L = p ++ l → I p.length s → ∃ s', I L.length s' ∧ (∀ K, bN l p.length B1 K s = K s') ∧ ∀ K, bN l p.length B2 K s = K s' := by
  intro l
  induction l with
  | nil => intro p s hj h; rw [List.append_nil] at hj; subst hj; exact ⟨s, h, fun _ => rfl, fun _ => rfl⟩
  | cons x r ih =>
   intro p s hj h
   obtain ⟨s1, h1, e1, e2⟩ := hc p.length x s (by rw [hj]; simp) h
   obtain ⟨s2, h2, e3, e4⟩ := ih (p ++ [x]) s1 (by simp [hj]) (by simpa using h1)
   simp only [List.length_append, List.length_cons, List.length_nil] at e3 e4
   exact ⟨s2, h2, fun K => by simp only [bN]; rw [e1]; exact e3 K, fun K => by simp only [bN]; rw [e2]; exact e4 K⟩
 exact key L [] s rfl h
/-- fields, one behind the other -/
def xy : Nat → List (Nat × Nat) → Nat
 | a, [] => a
 | a, (v, w) :: r => xy (a * 2 ^ w + v) r
def rK : List (Nat × Nat) → Nat
 | [] => 0
 | (_, w) :: r => w + rK r
theorem uj : ∀ (a : Nat) (F G : List (Nat × Nat)), xy a (F ++ G) = xy (xy a F) G
 | _, [], _ => rfl
 | a, (v, w) :: r, G => uj _ r G
theorem rL : ∀ (F G : List (Nat × Nat)), rK (F ++ G) = rK F + rK G
 | [], G => by simp [rK]
 | (v, w) :: r, G => by simp only [List.cons_append, rK, rL r G]; omega
def x9 (l : Int) : Nat := if l = 8 then 0 else if l = 16 then 1 else if l = 32 then 2 else 3
theorem aeq {l : Int} (h : pR l = true) : oh l = some (x9 l : Int) := by
 simp only [pR, Bool.or_eq_true, decide_eq_true_eq] at h
 rcases h with rfl | rfl | rfl | rfl <;> decide +kernel
theorem o4 {σ β : Type} (F : (σ → Option β) → σ → Option β) (n : Nat) (s : σ) : iter F (n + 1) s = F (iter F n) s := rfl
theorem afh {β : Type} {l : Int} (h : pR l = true) (R : Int → Option β) : whl (fun (Z : Int → Option β) (c : Int) => chk (decide (0 ≤ c)) <| bif decide (IntKind.wrap .i64 ((8 : Int) * 2 ^ min c.toNat 64) < l) then Z (w64 (c + 1)) else R c) 0 = R (x9 l : Int) := by
 simp only [pR, Bool.or_eq_true, decide_eq_true_eq] at h
 show iter _ (1099511627772 + 4) 0 = _
 have e1 : w64 (0 + 1) = 1 := by decide
 have e2 : w64 (1 + 1) = 2 := by decide
 have e3 : w64 (2 + 1) = 3 := by decide
 have p0 : IntKind.wrap .i64 ((8 : Int) * 2 ^ min (0 : Int).toNat 64) = 8 := by decide
 have p1 : IntKind.wrap .i64 ((8 : Int) * 2 ^ min (1 : Int).toNat 64) = 16 := by decide
 have p2 : IntKind.wrap .i64 ((8 : Int) * 2 ^ min (2 : Int).toNat 64) = 32 := by decide
 have p3 : IntKind.wrap .i64 ((8 : Int) * 2 ^ min (3 : Int).toNat 64) = 64 := by decide
 rcases h with rfl | rfl | rfl | rfl
 ·rw [o4, nj (by decide), p0]; rfl
 ·rw [o4, nj (by decide), p0, e1]
  simp only [show decide ((8 : Int) < 16) = true from rfl, cond_true]
  rw [o4, nj (by decide), p1]; rfl
 ·rw [o4, nj (by decide), p0, e1]
  simp only [show decide ((8 : Int) < 32) = true from rfl, cond_true]
  rw [o4, nj (by decide), p1, e2]
  simp only [show decide ((16 : Int) < 32) = true from rfl, cond_true]
  rw [o4, nj (by decide), p2]; rfl
 ·rw [o4, nj (by decide), p0, e1]
  simp only [show decide ((8 : Int) < 64) = true from rfl, cond_true]
  rw [o4, nj (by decide), p1, e2]
  simp only [show decide ((16 : Int) < 64) = true from rfl, cond_true]
  rw [o4, nj (by decide), p2, e3]
  simp only [show decide ((32 : Int) < 64) = true from rfl, cond_true]
  rw [o4, nj (by decide), p3]; rfl
theorem sM {s : aZ} {B V n : Nat} {v : Int} (h : Str s B V) (h0 : 0 ≤ v) (hn : n ≤ 64) (hv : v < 2 ^ n) (hB : B + n ≤ 8192) : ∃ u, bR (bK.mk s) v n = some (bK.mk u) ∧ cZ s v n = some u ∧ Str u (B + n) (V * 2 ^ n + v.toNat) := by
 have hv' : v.toNat < 2 ^ n := by
  have : ((2 : Int) ^ n) = ((2 ^ n : Nat) : Int) := by push_cast; rfl
  omega
 obtain ⟨u, h1, h2, h3⟩ := ah4 h hn hv' hB
 rw [show ((v.toNat : Nat) : Int) = v by omega] at h1 h2
 exact ⟨u, h1, h2, h3⟩
theorem afi {s : aZ} {B V : Nat} (h : Str s B V) (hB : B + 8 ≤ 8192) : Ok (nx s) (fun p => p.1.Data = s.Data) := by
 unfold nx
 rw [rQ h (by omega), aP]
 simp only [Bool.not_true, cond_false]
 have hle := h.r.le; have ht := h.t
 refine Ok.whl (fun sg : List Int × Int => ∃ k : Nat, B + k ≤ 8 * s.Data.length ∧ sg.1 = s.Data ∧ Str (aZ.mk sg.1 sg.2) (B + k) (V * 2 ^ k)) (fun sg => ((8 * s.Data.length : Nat) - sg.2).toNat) ⟨0, by omega, rfl, by simpa using h⟩ (by simp only; rw [h.b]; omega) ?_
 rintro ⟨D, N⟩ Z ⟨k, hk, hD, hs⟩ hZ
 simp only at hD hs ⊢
 have hN : N = ((B + k : Nat) : Int) := hs.b
 subst hD
 have e2 : Int.tmod N 8 = (((B + k) % 8 : Nat) : Int) := by rw [hN, Int.tmod_eq_emod_of_nonneg (by omega)]; omega
 rw [e2]
 refine Ok.cs (fun hc => ?_) fun _ => Ok.s rfl
 have hm : (B + k) % 8 ≠ 0 := by simp at hc; omega
 obtain ⟨u, hu, hus⟩ := (abi (b := 0) hs (by omega) (by omega)).get
 have huD : u.Data = s.Data := by
  have hx : SR s.Data (B + k + 1) (V * 2 ^ k * 2) := by
   refine ⟨h.r.by_, by omega, by omega, ?_⟩
   have e : 2 ^ (8 * s.Data.length - B) = 2 ^ k * 2 * 2 ^ (8 * s.Data.length - (B + k + 1)) := by
    rw [← Nat.pow_succ, ← Nat.pow_add]; congr 1; omega
   rw [h.r.num, e]; simp only [Nat.mul_assoc]
  exact hus.r.unique hx hus.t (by omega)
 refine Ok.bnd (P := fun x => x = u) ⟨u, hu, rfl⟩ ?_
 rintro _ rfl
 refine hZ _ ⟨k + 1, by omega, huD, ?_⟩ (by simp only; rw [hus.b, hN]; omega)
 rw [← Nat.add_assoc, Nat.pow_succ, ← Nat.mul_assoc]; exact hus
theorem apZ {β : Type} (c : Bool) (K : Int → Option β) : jn K (fun J => bif c then J 1 else J 0) = K (bif c then 1 else 0) := by cases c <;> rfl
def td (x : bu) : List (Nat × Nat) := [(x.bw.toNat, 7), (x.lM.toNat, 10), (x.bY.toNat, 10)]
def ya (x : bz) : List (Nat × Nat) := [(x.b9.toNat, 3), (x.ID.toNat, 9), (x9 x.Length, 2)]
def z8 (a : aj) : List (Nat × Nat) := [(a.ak.toNat, 7), (a.Seq.toNat, 20), ((bif a.aX then 1 else 0), 1), (a.Links.length, 5)]
def abF (a : aj) : List (Nat × Nat) := (z8 a ++ a.Links.flatMap td) ++ (a.Claims.length, 4) :: a.Claims.flatMap ya
theorem abk {α : Type} {l : List α} {j : Nat} {x : α} (h : l[j]? = some x) : l.take (j + 1) = l.take j ++ [x] := by
 obtain ⟨h1, rfl⟩ := List.getElem?_eq_some_iff.1 h
 rw [List.take_succ_eq_append_getElem h1]
theorem ajD : ∀ l : List bu, rK (l.flatMap td) = 27 * l.length
 | [] => rfl
 | x :: l => by rw [List.flatMap_cons, rL, ajD l, List.length_cons]; simp only [td, rK]; omega
theorem ajE : ∀ l : List bz, rK (l.flatMap ya) = 14 * l.length
 | [] => rfl
 | x :: l => by rw [List.flatMap_cons, rL, ajE l, List.length_cons]; simp only [ya, rK]; omega
/-- what an vz is written as -/
theorem ah5 {a : aj} (h : cu a = true) : ∃ l c, ep a = some (l, 0) ∧ gR a = some (l, 0) ∧ c < 65536 ∧ SR l (rK (abF a ++ [(c, 16)])) (xy 0 (abF a ++ [(c, 16)])) := by
 have hv := abE h
 have hb := h
 simp only [cu, inB, Bool.and_eq_true, decide_eq_true_eq, List.all_eq_true] at hb
 obtain ⟨⟨⟨⟨⟨r1, r2⟩, ⟨q1, q2⟩⟩, l1⟩, ⟨gl, _⟩⟩, ⟨c1, gc, _⟩⟩ := hb
 unfold ep gR
 rw [rJ, o3, h]
 obtain ⟨s1, a1, b1, t1⟩ := sM (v := a.ak) (n := 7) Str.nil (by omega) (by omega) (by omega) (by omega)
 obtain ⟨s2, a2, b2, t2⟩ := sM (v := a.Seq) (n := 20) t1 (by omega) (by omega) (by omega) (by omega)
 rw [show ((7 : Nat) : Int) = 7 from rfl] at a1 b1
 rw [show ((20 : Nat) : Int) = 20 from rfl] at a2 b2
 simp only [a1, b1, a2, b2, aP, Bool.not_true, cond_false, apZ]
 have hcp : (0 ≤ (bif a.aX then (1 : Int) else 0) ∧ (bif a.aX then (1 : Int) else 0) < 2) ∧ (bif a.aX then (1 : Int) else 0).toNat = (bif a.aX then 1 else 0) := by cases a.aX <;> decide
 generalize (bif a.aX then (1 : Int) else 0) = cp at hcp ⊢
 obtain ⟨hcp, hcpn⟩ := hcp
 obtain ⟨s3, a3, b3, t3⟩ := sM (v := cp) (n := 1) t2 (by omega) (by omega) (by omega) (by omega)
 obtain ⟨s4, a4, b4, t4⟩ := sM (v := (a.Links.length : Int)) (n := 5) t3 (by omega) (by omega) (by omega) (by omega)
 rw [show ((1 : Nat) : Int) = 1 from rfl] at a3 b3
 rw [show ((5 : Nat) : Int) = 5 from rfl] at a4 b4
 simp only [a3, b3, a4, b4, aP]
 obtain ⟨⟨D1, N1⟩, t5, e1, e2⟩ := abj (L := a.Links)
  (B1 := fun (j1 : Int) (e1 : bu) (Z1 : ((List Int) × Int) → Option (List Int × Int)) (sg : (List Int) × Int) => bnd (bR (bK.mk (aZ.mk sg.1 sg.2)) e1.bw (7:Int)) fun (bV : bK) => bnd (bR bV e1.lM (10:Int)) fun (cD : bK) => bnd (bR cD e1.bY (10:Int)) fun (dg : bK) => Z1 (dg.s_.Data, dg.s_.Bits))
  (B2 := fun (j1 : Int) (e1 : bu) (Z1 : ((List Int) × Int) → Option (List Int × Int)) (sg : (List Int) × Int) => bnd (cZ (aZ.mk sg.1 sg.2) e1.bw (7:Int)) fun (bV : aZ) => bnd (cZ bV e1.lM (10:Int)) fun (cD : aZ) => bnd (cZ cD e1.bY (10:Int)) fun (dg : aZ) => Z1 (dg.Data, dg.Bits))
  (fun j sg => Str (aZ.mk sg.1 sg.2) (33 + 27 * j) (xy 0 (z8 a ++ (a.Links.take j).flatMap td))) (by
   rintro j x ⟨D, N⟩ hx t
   have hj : j < a.Links.length := (List.getElem?_eq_some_iff.1 hx).1
   have g := gl x (List.mem_of_getElem? hx)
   simp only [kG, inB, Bool.and_eq_true, decide_eq_true_eq] at g
   obtain ⟨u1, c1, d1, f1⟩ := sM (v := x.bw) (n := 7) t (by omega) (by omega) (by omega) (by omega)
   obtain ⟨u2, c2, d2, f2⟩ := sM (v := x.lM) (n := 10) f1 (by omega) (by omega) (by omega) (by omega)
   obtain ⟨u3, c3, d3, f3⟩ := sM (v := x.bY) (n := 10) f2 (by omega) (by omega) (by omega) (by omega)
   rw [show ((7 : Nat) : Int) = 7 from rfl] at c1 d1
   rw [show ((10 : Nat) : Int) = 10 from rfl] at c2 d2 c3 d3
   refine ⟨(u3.Data, u3.Bits), ?_, fun Z => ?_, fun Z => ?_⟩
   ·rw [show 33 + 27 * (j + 1) = 33 + 27 * j + 7 + 10 + 10 by omega, abk hx, List.flatMap_append, ← List.append_assoc, uj]
    exact f3
   ·simp only [c1, c2, c3, aP]
   ·simp only [d1, d2, d3, aP]) (s4.Data, s4.Bits) (by
   have : xy 0 (z8 a ++ (a.Links.take 0).flatMap td) = (((0 * 2 ^ 7 + a.ak.toNat) * 2 ^ 20 + a.Seq.toNat) * 2 ^ 1 + cp.toNat) * 2 ^ 5 + a.Links.length := by rw [hcpn]; rfl
   rw [this]; exact t4)
 rw [e1, e2]
 simp only [List.take_length] at t5 ⊢
 obtain ⟨s6, a6, b6, t6⟩ := sM (v := (a.Claims.length : Int)) (n := 4) t5 (by omega) (by omega) (by omega) (by omega)
 rw [show ((4 : Nat) : Int) = 4 from rfl] at a6 b6
 simp only [a6, b6, aP]
 obtain ⟨⟨D2, N2⟩, t7, e3, e4⟩ := abj (L := a.Claims)
  (B1 := fun (j2 : Int) (e2 : bz) (Z2 : ((List Int) × Int) → Option (List Int × Int)) (sg : (List Int) × Int) => whl (fun (Z3 : Int → Option (List Int × Int)) (jo : Int) => chk (decide (0 ≤ jo)) <| bif decide (IntKind.wrap .i64 ((8:Int) * 2 ^ min jo.toNat 64) < e2.Length) then Z3 (w64 (jo + (1:Int))) else bnd (bR (bK.mk (aZ.mk sg.1 sg.2)) e2.b9 (3:Int)) fun (bQ : bK) => bnd (bR bQ e2.ID (9:Int)) fun (en : bK) => bnd (bR en jo (2:Int)) fun (cm : bK) => Z2 (cm.s_.Data, cm.s_.Bits)) (0:Int))
  (B2 := fun (j2 : Int) (e2 : bz) (Z2 : ((List Int) × Int) → Option (List Int × Int)) (sg : (List Int) × Int) => bnd (cZ (aZ.mk sg.1 sg.2) e2.b9 (3:Int)) fun (bQ : aZ) => bnd (cZ bQ e2.ID (9:Int)) fun (en : aZ) => bnd (oh e2.Length) fun (cm : Int) => bnd (cZ en cm (2:Int)) fun (gy : aZ) => Z2 (gy.Data, gy.Bits))
  (fun j sg => Str (aZ.mk sg.1 sg.2) (37 + 27 * a.Links.length + 14 * j) (xy 0 ((z8 a ++ a.Links.flatMap td) ++ (a.Claims.length, 4) :: (a.Claims.take j).flatMap ya))) (by
   rintro j x ⟨D, N⟩ hx t
   have hj : j < a.Claims.length := (List.getElem?_eq_some_iff.1 hx).1
   have g := gc x (List.mem_of_getElem? hx)
   simp only [jU, inB, Bool.and_eq_true, decide_eq_true_eq] at g
   have hcd : x9 x.Length < 4 := by unfold x9; split; omega; split; omega; split <;> omega
   obtain ⟨u1, c1, d1, f1⟩ := sM (v := x.b9) (n := 3) t (by omega) (by omega) (by omega) (by omega)
   obtain ⟨u2, c2, d2, f2⟩ := sM (v := x.ID) (n := 9) f1 (by omega) (by omega) (by omega) (by omega)
   obtain ⟨u3, c3, d3, f3⟩ := sM (v := (x9 x.Length : Int)) (n := 2) f2 (by omega) (by omega) (by omega) (by omega)
   rw [show ((3 : Nat) : Int) = 3 from rfl] at c1 d1
   rw [show ((9 : Nat) : Int) = 9 from rfl] at c2 d2
   rw [show ((2 : Nat) : Int) = 2 from rfl] at c3 d3
   refine ⟨(u3.Data, u3.Bits), ?_, fun Z => ?_, fun Z => ?_⟩
   ·rw [show 37 + 27 * a.Links.length + 14 * (j + 1) = 37 + 27 * a.Links.length + 14 * j + 3 + 9 + 2 by omega, abk hx, List.flatMap_append, ← List.cons_append, ← List.append_assoc, uj]
    exact f3
   ·simp only
    rw [afh g.2]
    simp only [c1, c2, c3, aP]
   ·simp only [d1, d2, d3, aP, aeq g.2]) (s6.Data, s6.Bits) (by
    rw [show 37 + 27 * a.Links.length + 14 * 0 = 33 + 27 * a.Links.length + 4 by omega, uj]; exact t6)
 rw [e3, e4]
 simp only [List.take_length] at t7 ⊢
 obtain ⟨c, hc, k1, k2⟩ := aep t7 (by omega)
 simp only [k1, k2, aP]
 rw [ct (by omega) (by omega)]
 obtain ⟨s8, a8, b8, t8⟩ := sM (v := (c : Int)) (n := 16) t7 (by omega) (by omega) (by omega) (by omega)
 rw [show ((16 : Nat) : Int) = 16 from rfl] at a8 b8
 simp only [a8, b8, aP]
 obtain ⟨p, hp, hd⟩ := afi t8 (by omega)
 rw [hp, aP, hd]
 have hw : rK (abF a ++ [(c, 16)]) = 37 + 27 * a.Links.length + 14 * a.Claims.length + 16 := by
  rw [rL, abF, rL, rL, ajD]
  simp only [rK, ajE, z8]; omega
 refine ⟨_, c, rfl, rfl, hc, ?_⟩
 rw [hw, uj]
 exact t8.r
theorem acE {a : aj} (h : cu a = true) : ∃ l, ep a = some (l, 0) ∧ gR a = some (l, 0) := by
 obtain ⟨l, c, h1, h2, _⟩ := ah5 h
 exact ⟨l, h1, h2⟩
end Go.Proofs.YtpmifmdidfgpdaaGreat

/- Plain: aui vu, Put, by both. No condition but bT bB stand in each. -/
namespace Go.Proofs.YtpmifmdidfgpdaaGreat
set_option linter.all false
open Go
def sA (l : List Int) : List UInt8 := l.map fun n => UInt8.ofNat n.toNat
def zx (a : aj) : List Int := match ep a with | some p => p.1 | none => []
def ah6 (a b : aj) : Bool := decide (b.Seq < a.Seq) || (decide (a.Seq = b.Seq) && decide (0 < pS (sA (zx a)) (sA (zx b))))
def qU (a b : aj) : Bool := cu a && (cu b && (decide (a.ak = b.ak) && ah6 a b))
theorem amH {a : aj} (h : cu a = true) : ep a = some (zx a, 0) := by
 obtain ⟨l, h1, h2⟩ := acE h
 unfold zx; rw [h1]
theorem acF {a : aj} (h : cu a = true) : gR a = some (zx a, 0) := by
 obtain ⟨l, h1, h2⟩ := acE h
 unfold zx; rw [h1, h2]
theorem ah7 (x y : List Int) : tK .gtr (ia x) (ia y) = decide (0 < pS (sA x) (sA y)) := by
 show (!(Go.Op.bytesLess (ia x).toList (ia y).toList || (ia x).toList == (ia y).toList)) = _
 rw [Lib.toList_data, Lib.toList_data]
 exact aff (sA x) (sA y)
theorem amI (x y : List Int) : apC x y = pS (sA x) (sA y) := ah3 _ _
theorem ac1 (a b : aj) : ny a b = some (qU a b) := by
 unfold ny qU
 simp only [jn, o3, aP]
 cases ha : cu a
 ·simp
 cases hb : cu b
 ·simp
 by_cases hr : a.ak = b.ak
 ·simp only [hr, Bool.not_true, cond_false, decide_true, acF ha, acF hb, aP, ah7, ah6, Bool.true_and]
 ·simp [hr]
theorem ah8 (a b : aj) : mA a b = some (qU a b) := by
 unfold mA qU
 have hx : ∀ a, ∃ p, ep a = some p ∧ (cu a = true → p = (zx a, 0)) ∧ (cu a = false → p.2 = 1) := fun a => by
  cases h : cu a
  ·refine ⟨([], 1), ?_, fun h => by simp at h, fun _ => rfl⟩
   unfold ep; rw [rJ, h]; rfl
  ·exact ⟨_, amH h, fun _ => rfl, fun h => by simp at h⟩
 obtain ⟨p, hp, hp1, hp2⟩ := hx a
 obtain ⟨q, hq, hq1, hq2⟩ := hx b
 simp only [hp, hq, aP]
 cases ha : cu a
 ·simp [hp2 ha]
 cases hb : cu b
 ·simp [hq2 hb]
 rw [hp1 ha, hq1 hb]
 by_cases hr : a.ak = b.ak
 ·simp only [hr, decide_true, Bool.not_true, Bool.or_self, cond_false, Bool.true_and, ah6]
  by_cases h1 : b.Seq < a.Seq
  ·simp [h1]
  ·by_cases h2 : a.Seq = b.Seq
   ·simp only [h2, decide_true, cond_true, qI, aP, amI]; simp
   ·simp [h1, h2]
 ·simp [hr]
/-! With -/
def ltR (r : Int) (l : List aj) : List aj := l.filter fun x => decide (x.ak < r)
def gtR (r : Int) (l : List aj) : List aj := l.filter fun x => decide (r < x.ak)
def s5 (d : aF) (a : aj) : aF := aF.mk (ltR a.ak d.aq ++ a :: gtR a.ak d.aq)
theorem yb (r : Int) (l m : List aj) : ltR r (l ++ m) = ltR r l ++ ltR r m := List.filter_append ..
theorem yc (r : Int) (l m : List aj) : gtR r (l ++ m) = gtR r l ++ gtR r m := List.filter_append ..
theorem yd {r : Int} {l : List aj} (h : ∀ x ∈ l, x.ak < r) : ltR r l = l := List.filter_eq_self.2 fun x hx => by simpa using h x hx
theorem wk {r : Int} {l : List aj} (h : ∀ x ∈ l, r ≤ x.ak) : ltR r l = [] := List.filter_eq_nil_iff.2 fun x hx => by simpa using h x hx
theorem aaV {r : Int} {l : List aj} (h : ∀ x ∈ l, r < x.ak) : gtR r l = l := List.filter_eq_self.2 fun x hx => by simpa using h x hx
theorem uk {r : Int} {l : List aj} (h : ∀ x ∈ l, x.ak ≤ r) : gtR r l = [] := List.filter_eq_nil_iff.2 fun x hx => by simpa using h x hx
def wm (d : aF) : Prop := d.aq.Pairwise (fun a b => a.ak < b.ak)
theorem aaa {d : aF} (hd : wm d) (hl : d.aq.length ≤ 100000) (a : aj) : oo d a = some (s5 d a) := by
 refine Ok.eq ?_
 unfold oo
 refine Ok.pQ (fun P (sg : Bool × List aj) => (sg.1 = false → (∀ x ∈ P, x.ak < a.ak) ∧ sg.2 = P) ∧ (sg.1 = true → (∃ x ∈ P, a.ak ≤ x.ak) ∧ sg.2 = ltR a.ak P ++ a :: gtR a.ak P) ∧ sg.2.length ≤ P.length + 1) ?_ _ ⟨fun _ => ⟨by simp, rfl⟩, fun h => by simp at h, by simp⟩ ?_
 ·rintro P e rest ⟨dn, m⟩ Z hL ⟨h1, h2, h3⟩ hZ
  simp only at h1 h2 h3 ⊢
  have hP : P.length < d.aq.length := by rw [hL]; simp
  have ah9 : ∀ x ∈ P, x.ak < e.ak := fun x hx => by
   have := hd; unfold wm at this; rw [hL] at this
   exact (List.pairwise_append.1 this).2.2 x hx e (by simp)
  simp only [jn]
  cases hdn : dn
  ·obtain ⟨g1, rfl⟩ := h1 hdn
   subst hdn
   by_cases hr : a.ak ≤ e.ak
   ·simp only [hr, decide_true, Bool.not_false, Bool.and_self, cond_true]
    rw [dP (by simp; omega), aP]
    by_cases he : e.ak = a.ak
    ·simp only [he, decide_true, Bool.not_true, cond_false]
     refine hZ _ ⟨fun h => by simp at h, fun _ => ⟨⟨e, by simp, hr⟩, ?_⟩, by simp <;> omega⟩
     rw [yb, yc, yd g1, uk (l := m) (fun x hx => by have := g1 x hx; omega), wk (l := [e]) (by simp; omega), uk (l := [e]) (by simp; omega)]
     simp
    ·simp only [he, decide_false, Bool.not_false, cond_true]
     rw [dP (by simp; omega), aP]
     refine hZ _ ⟨fun h => by simp at h, fun _ => ⟨⟨e, by simp, hr⟩, ?_⟩, by simp <;> omega⟩
     rw [yb, yc, yd g1, uk (l := m) (fun x hx => by have := g1 x hx; omega), wk (l := [e]) (by simp; omega), aaV (l := [e]) (by simp; omega)]
     simp
   ·have he : e.ak ≠ a.ak := by omega
    simp only [hr, decide_false, Bool.and_false, cond_false, he, Bool.not_false, cond_true]
    rw [dP (by simp; omega), aP]
    refine hZ _ ⟨fun _ => ⟨?_, rfl⟩, fun h => by simp at h, by simp <;> omega⟩
    intro x hx
    rcases List.mem_append.1 hx with hx | hx
    ·exact g1 x hx
    ·simp at hx; subst hx; omega
  ·subst hdn
   obtain ⟨⟨x, hx, hxr⟩, hm⟩ := h2 rfl
   have her : a.ak < e.ak := by have := ah9 x hx; omega
   have he : e.ak ≠ a.ak := by omega
   simp only [Bool.not_true, Bool.false_and, cond_false, he, decide_false, Bool.not_false, cond_true]
   rw [dP (by simp; omega), aP]
   refine hZ _ ⟨fun h => by simp at h, fun _ => ⟨⟨x, by simp [hx], hxr⟩, ?_⟩, by simp <;> omega⟩
   rw [yb, yc, wk (l := [e]) (by simp; omega), aaV (l := [e]) (by simp; omega), hm]
   simp
 ·rintro ⟨dn, m⟩ ⟨h1, h2, h3⟩
  simp only at h1 h2 h3 ⊢
  simp only [jn]
  unfold s5
  cases dn
  ·obtain ⟨g1, rfl⟩ := h1 rfl
   simp only [Bool.not_false, cond_true]
   rw [dP (by simp; omega), aP]
   exact Ok.s (by rw [yd g1, uk (fun x hx => by have := g1 x hx; omega)])
  ·obtain ⟨_, hm⟩ := h2 rfl
   exact Ok.s (by rw [hm])
/-! Put -/
def sN (d : aF) (a : aj) : aF × Bool :=
 bif (gV d a.ak).2 && !qU a (gV d a.ak).1 then (d, false) else (s5 d a, true)
theorem abl (d : aF) (a : aj) : nH d a = some (if dbC d = 0 ∧ cu a = true then sN d a else (d, false)) := by
 unfold nH
 simp only [jn, rO, o3, z6, aP]
 by_cases h : dbC d = 0
 ·cases hv : cu a
  ·simp [h]
  ·have hd := kj.1 h
   simp only [h, decide_true, Bool.not_true, cond_false, and_self, if_true, sN]
   cases hf : (gV d a.ak).2
   ·simp only [cond_false, Bool.false_and]
    rw [aaa hd.asc (by have := hd.n; omega), aP]
   ·simp only [cond_true, ac1, aP, Bool.true_and]
    cases qU a (gV d a.ak).1
    ·rfl
    ·simp only [Bool.not_true, cond_false]
     rw [aaa hd.asc (by have := hd.n; omega), aP]
 ·simp [h]
theorem bsAd (l : List aj) (x : Int) (c : aj → Int → Option Int) (f : aj → Int) (hl : l.length ≤ 1000000) (hc : ∀ r, c r x = some (f r)) : cC l x c = some ((bsR f l : Int), bsT f l) := by
 unfold cC
 refine aaJ l f hl fun i j Z hj => ?_
 by_cases hij : i < j
 ·rw [dif_pos hij]
  simp only [aaI (i := i) (j := j) (by omega), sx (show (i + j) / 2 < l.length by omega), aP, hc, nD]
  rw [if_pos (by omega), ct (by omega) (by omega)]
  rfl
 ·rw [dif_neg hij]
  simp only [nD]
  rw [if_neg (by omega)]
  by_cases hi : i < l.length
  ·rw [if_pos (by omega), sx hi]; simp only [aP, hc]; simp [hi]
  ·rw [if_neg (by omega)]; simp [hi]
theorem amJ (x : aj) (r : Int) : kg x r = some (dR x.ak r) := by
 unfold kg; rw [aaG, aP]
theorem zy (x y : Int) : (dR x y < 0 ↔ x < y) ∧ (dR x y = 0 ↔ x = y) := by
 unfold dR; split
 ·exact ⟨by omega, by omega⟩
 ·split
  ·exact ⟨by omega, by omega⟩
  ·exact ⟨by omega, by omega⟩
theorem adp {d : aF} (hd : wm d) (r : Int) : ∀ a b : Nat, a ≤ b → b < d.aq.length → dR (el d.aq a).ak r ≤ dR (el d.aq b).ak r :=
 pP (f := fun x : aj => dR x.ak r) (hd.imp fun h => by
  unfold dR; split <;> split <;> (try split) <;> (try split) <;> omega)
/-- the place of a aJ -/
theorem aia {d : aF} (hd : wm d) (r : Int) : d.aq.take (bsR (fun x : aj => dR x.ak r) d.aq) = ltR r d.aq ∧
  (bsT (fun x : aj => dR x.ak r) d.aq = (gV d r).2) ∧ bsR (fun x : aj => dR x.ak r) d.aq ≤ d.aq.length ∧
  ((gV d r).2 = false → d.aq.drop (bsR (fun x : aj => dR x.ak r) d.aq) = gtR r d.aq) ∧
  ((gV d r).2 = true → d.aq.drop (bsR (fun x : aj => dR x.ak r) d.aq) = (gV d r).1 :: gtR r d.aq) := by
 obtain ⟨h1, h2, h3⟩ := acn (f := fun x : aj => dR x.ak r) (adp hd r)
 have hT := aaK (f := fun x : aj => dR x.ak r) (adp hd r)
 generalize bsR (fun x : aj => dR x.ak r) d.aq = n at h1 h2 h3 ⊢
 have ht : ∀ x ∈ d.aq.take n, x.ak < r := fun x hx => by
  obtain ⟨i, hi, rfl⟩ := List.getElem_of_mem hx
  rw [List.length_take] at hi
  have := h2 i (by omega)
  rw [ud (by omega)] at this
  rw [List.getElem_take]
  exact (zy _ _).1.1 this
 have hg : ∀ x ∈ d.aq.drop n, r ≤ x.ak := fun x hx => by
  obtain ⟨i, hi, rfl⟩ := List.getElem_of_mem hx
  rw [List.length_drop] at hi
  have := h3 (n + i) (by omega) (by omega)
  rw [ud (by omega)] at this
  rw [List.getElem_drop]
  have q := (zy (d.aq[n + i]).ak r).1
  have q2 : ¬ dR (d.aq[n + i]).ak r < 0 := by omega
  rw [q] at q2; omega
 have hs := List.take_append_drop n d.aq
 have e1 : ltR r d.aq = d.aq.take n := by
  conv => lhs; rw [← hs]
  rw [yb, yd ht, wk hg, List.append_nil]
 have e2 : gtR r d.aq = gtR r (d.aq.drop n) := by
  conv => lhs; rw [← hs]
  rw [yc, uk (l := d.aq.take n) (fun x hx => by have := ht x hx; omega), List.nil_append]
 have e3 : bsT (fun x : aj => dR x.ak r) d.aq = (gV d r).2 := by
  rw [Bool.eq_iff_iff, hT]
  simp only [(zy _ _).2]
  rcases qQ d r with ⟨a, ha, he, hf⟩ | ⟨hn, hf⟩
  ·rw [hf]; exact ⟨fun _ => rfl, fun _ => ⟨a, ha, he⟩⟩
  ·rw [hf]; exact ⟨fun ⟨a, ha, he⟩ => absurd he (hn a ha), fun h => by simp at h⟩
 refine ⟨e1.symm, e3, h1, fun hf => ?_, fun hf => ?_⟩
 ·rw [e2, aaV]
  intro x hx
  rcases qQ d r with ⟨a, ha, he, hf2⟩ | ⟨hn, hf2⟩
  ·rw [hf2] at hf; simp at hf
  ·have := hg x hx; have := hn x (List.mem_of_mem_drop hx); omega
 ·rcases qQ d r with ⟨a, ha, he, hf2⟩ | ⟨hn, hf2⟩
  ·rw [hf2, e2]
   have hmem : a ∈ d.aq.drop n := by
    have : a ∈ d.aq.take n ++ d.aq.drop n := by rw [hs]; exact ha
    rcases List.mem_append.1 this with q | q
    ·have := ht a q; omega
    ·exact q
   have hp : (d.aq.drop n).Pairwise (fun a b => a.ak < b.ak) := List.Pairwise.sublist (List.drop_sublist n _) hd
   cases hD : d.aq.drop n with
   | nil => rw [hD] at hmem; simp at hmem
   | cons y t =>
    rw [hD] at hp hmem hg
    rw [List.pairwise_cons] at hp
    rcases List.mem_cons.1 hmem with q | q
    ·subst q
     show _ = a :: (a :: t).filter _
     rw [List.filter_cons_of_neg (by simp [he])]
     congr 1
     exact (List.filter_eq_self.2 fun x hx => by have := hp.1 x hx; simp; omega).symm
    ·have := hp.1 a q; have := hg y (by simp); omega
  ·rw [hf2] at hf; simp at hf
theorem afj {d : aF} (hd : wm d) (hl : d.aq.length ≤ 100000) {a : aj} (ha : SmA a) : jZ d a = some ((sN d a).2, (sN d a).1) := by
 unfold jZ
 rw [bsAd d.aq a.ak _ (fun x => dR x.ak a.ak) (by omega) (fun x => amJ x _), aP]
 obtain ⟨p1, p2, p3, p4, p5⟩ := aia hd a.ak
 simp only [jn, p2]
 generalize bsR (fun x : aj => dR x.ak a.ak) d.aq = n at *
 unfold sN s5
 cases hf : (gV d a.ak).2
 ·simp only [Bool.not_false, cond_true, Bool.false_and, cond_false, uJ ha, aP]
  have : aao d.aq (n : Int) a = some (ltR a.ak d.aq ++ a :: gtR a.ak d.aq) := by
   unfold aao
   rw [if_pos ⟨⟨by omega, by omega⟩, by unfold cap; omega⟩, Int.toNat_natCast, p1, p4 hf]
  rw [this, aP]
 ·have hD := p5 hf
  have hn : n < d.aq.length := by
   have := congrArg List.length hD
   rw [List.length_drop, List.length_cons] at this; omega
  have he : d.aq[n] = (gV d a.ak).1 := by
   rw [List.drop_eq_getElem_cons hn] at hD
   exact (List.cons.inj hD).1
  have hel : elO d.aq (n : Int) = some (gV d a.ak).1 := by
   rw [← he]; unfold elO; rw [if_pos (by omega)]; simp [hn]
  simp only [Bool.not_true, cond_false, hel, aP, ah8, Bool.true_and]
  cases hnw : qU a (gV d a.ak).1
  ·rfl
  ·simp only [cond_true, uJ ha, aP, Bool.not_true, cond_false]
   have : iL d.aq (n : Int) a = some (ltR a.ak d.aq ++ a :: gtR a.ak d.aq) := by
    unfold iL
    rw [if_pos ⟨by omega, by omega⟩, Int.toNat_natCast, List.set_eq_take_append_cons_drop, if_pos hn, p1]
    rw [List.drop_eq_getElem_cons hn] at hD
    rw [(List.cons.inj hD).2]
   rw [this, aP]
theorem acG {d : aF} (hd : SmD d) : iS d = some d := by
 refine Ok.eq ?_
 unfold iS
 refine Ok.pQ (fun P (m : List aj) => m = P) ?_ _ rfl (fun m hm => Ok.s (by rw [hm]))
 rintro P x r m Z hL rfl hZ
 have hx : x ∈ d.aq := by rw [hL]; simp
 have hl : m.length < d.aq.length := by rw [hL]; simp
 have := hd.1
 rw [uJ (hd.2 x hx), aP, dP (by simp; omega), aP]
 exact hZ _ rfl
theorem ap0 {d : aF} (hd : SmD d) {a : aj} (ha : SmA a) : mB d a = some (if dbC d = 0 ∧ cu a = true then sN d a else (d, false)) := by
 unfold mB
 simp only [jn, acG hd, wg, rJ, aP]
 by_cases h : dbC d = 0
 ·cases hv : cu a
  ·simp [h]
  ·simp only [h, decide_true, Bool.not_true, cond_false, and_self, if_true]
   rw [afj (kj.1 h).asc hd.1 ha, aP]
 ·simp [h]
end Go.Proofs.YtpmifmdidfgpdaaGreat

/- Plain: abe as cr of mE; Put and auj. No condition but bT bB stand in each. -/
namespace Go.Proofs.YtpmifmdidfgpdaaGreat
set_option linter.all false
open Go
theorem adq : ∀ (l : List aj) (lo : Int), l.Pairwise (fun a b => a.ak < b.ak) → (∀ x ∈ l, lo ≤ x.ak ∧ x.ak ≤ 99) → (l.length : Int) ≤ max 0 (100 - lo)
 | [], lo, _, _ => by simp; omega
 | x :: r, lo, h, hb => by
  rw [List.pairwise_cons] at h
  have h1 := hb x (by simp)
  have := adq r (x.ak + 1) h.2 fun y hy => ⟨by have := h.1 y hy; omega, (hb y (by simp [hy])).2⟩
  simp only [List.length_cons]
  omega
theorem auk {d : aF} (h1 : ∀ a ∈ d.aq, cu a = true) (h2 : wm d) : Vd d := by
 refine ⟨?_, h1, h2⟩
 have := adq d.aq 1 h2 fun x hx => (abE (h1 x hx)).r
 omega
theorem aib {d : aF} {a x : aj} : x ∈ (s5 d a).aq ↔ x = a ∨ (x ∈ d.aq ∧ x.ak ≠ a.ak) := by
 simp only [s5, List.mem_append, List.mem_cons, ltR, gtR, List.mem_filter, decide_eq_true_eq]
 constructor
 ·rintro (⟨h1, h2⟩ | rfl | ⟨h1, h2⟩)
  ·exact .inr ⟨h1, by omega⟩
  ·exact .inl rfl
  ·exact .inr ⟨h1, by omega⟩
 ·rintro (rfl | ⟨h1, h2⟩)
  ·exact .inr (.inl rfl)
  ·rcases Int.lt_or_gt_of_ne h2 with h | h
   ·exact .inl ⟨h1, h⟩
   ·exact .inr (.inr ⟨h1, h⟩)
theorem aic {d : aF} (h : wm d) (a : aj) : wm (s5 d a) := by
 unfold wm s5
 simp only
 refine List.pairwise_append.2 ⟨List.Pairwise.sublist List.filter_sublist h, List.pairwise_cons.2 ⟨fun y hy => by simpa [gtR] using (List.mem_filter.1 hy).2, List.Pairwise.sublist List.filter_sublist h⟩, fun x hx y hy => ?_⟩
 have h1 : x.ak < a.ak := by simpa using (List.mem_filter.1 hx).2
 rcases List.mem_cons.1 hy with rfl | hy
 ·exact h1
 ·have : a.ak < y.ak := by simpa using (List.mem_filter.1 hy).2
  omega
theorem Vd.with {d : aF} (h : Vd d) {a : aj} (ha : cu a = true) : Vd (s5 d a) :=
 auk (fun x hx => by rcases aib.1 hx with rfl | ⟨h1, _⟩; exact ha; exact h.ok x h1) (aic h.asc a)
theorem Vd.put {d : aF} (h : Vd d) {a : aj} (ha : cu a = true) : Vd (sN d a).1 := by
 unfold sN
 cases (gV d a.ak).2 && !qU a (gV d a.ak).1
 ·exact h.with ha
 ·exact h
/-! ## what is known of a aJ -/
def mx (o : Option aj) (a : aj) : aj := match o with | none => a | some x => bif qU a x then a else x
/-! ## aui is an order -/
/-! ## auj -/
def aab (a b : aF) : aF := b.aq.foldl (fun m e => (sN m e).1) a
theorem abm {α β : Type} {f : β → α → β} {P : β → Prop} : ∀ (l : List α) (b : β), P b → (∀ b x, x ∈ l → P b → P (f b x)) → P (l.foldl f b)
 | [], b, h, _ => h
 | x :: l, b, h, hs => by
  simp only [List.foldl_cons]
  exact abm l _ (hs b x (by simp) h) fun b y hy => hs b y (by simp [hy])
theorem Vd.merge {a b : aF} (ha : Vd a) (hb : Vd b) : Vd (aab a b) :=
 abm (P := Vd) b.aq a ha fun d x hx h => h.put (hb.ok x hx)
theorem ac2 (a b : aF) : nA a b = some (if dbC a = 0 ∧ dbC b = 0 then (aab a b, 0) else (aF.mk [], 1)) := by
 unfold nA
 simp only [jn, rO, aP]
 by_cases h1 : dbC a = 0
 ·by_cases h2 : dbC b = 0
  ·simp only [h1, h2, decide_true, Bool.not_true, cond_false, and_self, if_true]
   refine Ok.eq ?_
   refine Ok.pQ (fun P (m : List aj) => aF.mk m = P.foldl (fun m e => (sN m e).1) a ∧ Vd (aF.mk m)) ?_ _ ⟨rfl, kj.1 h1⟩ (fun m hm => Ok.s (by rw [hm.1]; rfl))
   rintro P x r m Z hL ⟨hm, hv⟩ hZ
   have hx := (kj.1 h2).ok x (by rw [hL]; simp)
   rw [abl, if_pos ⟨kj.2 hv, hx⟩, aP]
   exact hZ _ ⟨by rw [List.foldl_append, ← hm]; rfl, hv.put hx⟩
  ·simp [h1, h2]
 ·simp [h1]
theorem Va.sm {a : aj} (h : cu a = true) : SmA a := by have := abE h; exact ⟨by have := this.n; omega, by have := this.nc; omega⟩
theorem aid {a : aF} (hs : SmD a) (b : aF) : ki a b = some (if dbC a = 0 ∧ dbC b = 0 then (aab a b, 0) else (aF.mk [], 1)) := by
 unfold ki
 simp only [jn, wg, acG hs, aP]
 by_cases h1 : dbC a = 0
 ·by_cases h2 : dbC b = 0
  ·simp only [h1, h2, decide_true, Bool.not_true, cond_false, and_self, if_true]
   refine Ok.eq ?_
   refine Ok.pQ (fun P (m : List aj) => aF.mk m = P.foldl (fun m e => (sN m e).1) a ∧ Vd (aF.mk m)) ?_ _ ⟨rfl, kj.1 h1⟩ (fun m hm => Ok.s (by rw [hm.1]; rfl))
   rintro P x r m Z hL ⟨hm, hv⟩ hZ
   have hx := (kj.1 h2).ok x (by rw [hL]; simp)
   rw [afj hv.asc (by have := hv.n; omega) (Va.sm hx), aP]
   exact hZ _ ⟨by rw [List.foldl_append, ← hm]; rfl, hv.put hx⟩
  ·simp [h1, h2]
 ·simp [h1]
theorem aac (a : aF) : abD a a = true := by unfold abD; rw [wh rP aem]; simp
end Go.Proofs.YtpmifmdidfgpdaaGreat

/- Plain: the vz of a aJ of a zu, by the specification. No condition but bT bB stand in each. -/
namespace Go.Proofs.YtpmifmdidfgpdaaGreat
set_option linter.all false
open Go
def oG (t : aD) (r n : Int) : bu := match t.Links.find? (fun l => eR l r n) with | some l => bu.mk n (kV r n l).1 l.bY | none => bu.mk n 0 0
def aer (t : aD) (r : Int) : Bool := match t.aI.find? (fun x => decide (x.ID = r)) with | some x => x.aX | none => false
def ofA (t : aD) (r seq : Int) (cl : List bz) : aj := aj.mk r seq (aer t r) ((gz t r).map (oG t r)) cl
theorem adr (t : aD) (r n : Int) : (oG t r n).bw = n := by unfold oG; split <;> rfl
theorem wo {t : aD} (hv : Vt t) {a b : Int} {l : aQ} (hl : l ∈ t.Links) (he : eR l a b = true) : oG t a b = bu.mk b (kV a b l).1 l.bY := by
 unfold oG
 cases hf : t.Links.find? (fun l => eR l a b) with
 | none => exact absurd he (List.find?_eq_none.1 hf l hl)
 | some x =>
  have hx := List.mem_of_find?_eq_some hf
  have hp := List.find?_some hf
  have h1 := hv.lt _ hl
  have h2 := hv.lt _ hx
  simp [eR] at he hp
  rw [acr hv hx hl (by omega) (by omega)]
theorem adt {t : aD} (hv : Vt t) {l : aQ} (hl : l ∈ t.Links) : oG t l.A l.B = bu.mk l.B l.ja l.bY := by
 rw [wo hv hl (by simp [eR])]; simp [kV]
theorem adu {t : aD} (hv : Vt t) {l : aQ} (hl : l ∈ t.Links) : oG t l.B l.A = bu.mk l.A l.iF l.bY := by
 have := hv.lt _ hl
 rw [wo hv hl (by simp [eR])]
 have e : (decide (l.A = l.B) && decide (l.B = l.A)) = false := by simp; omega
 simp only [kV, e, cond_false]
theorem acH {t : aD} (hv : Vt t) (r : Int) : ig t r = some (aer t r) := by
 unfold ig
 simp only [sv, aP, nE.2 hv, decide_true, Bool.not_true, cond_false]
 refine (sy (fun x : aY => decide (x.ID = r)) (fun x => some x.aX) (fun _ _ _ _ => rfl) _ _ _).trans ?_
 unfold aer
 cases t.aI.find? (fun x => decide (x.ID = r)) <;> rfl
theorem wq {t : aD} (hv : Vt t) {r : Int} (hr : r ∈ ids t) : (gz t r).length ≤ 23 := by
 have h1 : r ∉ gz t r := fun h => acu hv ((lG hv).1 h) rfl
 have h2 : (gz t r).Nodup := (ue hv r).imp fun h => by omega
 have := abd (a := r :: gz t r) (b := ids t) (List.nodup_cons.2 ⟨h1, h2⟩) fun x hx => by
  rcases List.mem_cons.1 hx with rfl | hx
  ·exact hr
  ·exact (List.mem_filter.1 hx).1
 have h3 := amA hv
 simp only [List.length_cons] at this
 omega
theorem aie {t : aD} (hv : Vt t) {r : Int} (hr : r ∈ ids t) (seq : Int) (cl : List bz) : qL t r seq cl = some (bif cu (ofA t r seq cl) then (ofA t r seq cl, 0) else (noA, 2)) := by
 refine Ok.eq ?_
 unfold qL
 simp only [sv, amw, acH hv, acv hv, aP, nE.2 hv, aaN.1 hr, decide_true, Bool.not_true, cond_false, Bool.true_and]
 refine Ok.pQ (fun P (m : List bu) => m = P.map (oG t r)) ?_ _ rfl ?_
 ·rintro P n rest m Z hL rfl hZ
  have acI : qP t r n = true := (lG hv).1 (by rw [hL]; simp)
  have hlen : P.length < (gz t r).length := by rw [hL]; simp
  have hl23 := wq hv hr
  obtain ⟨l, hl, hc⟩ := nJ.1 acI
  have hlt := hv.lt l hl
  have he : eR l r n = true := by simp [eR]; omega
  rw [xu, aP]
  refine Ok.pQ (fun P2 (m2 : Int) => l ∈ P2 → m2 = l.bY) ?_ _ (by simp) ?_
  ·rintro P2 x rest2 m2 Z2 hL2 hm2 hZ2
   have hx : x ∈ t.Links := by rw [hL2]; simp
   have hmin : (if n < r then n else r) = l.A := by split <;> omega
   have hmax : (if n > r then n else r) = l.B := by split <;> omega
   rw [hmin, hmax]
   simp only [jn]
   refine Ok.cs (fun h => ?_) fun h => ?_
   ·simp at h
    refine hZ2 _ fun _ => ?_
    rw [acr hv hx hl h.1 h.2]
   ·refine hZ2 _ fun hm => ?_
    rcases List.mem_append.1 hm with hm | hm
    ·exact hm2 hm
    ·simp at hm; subst hm; simp at h
  ·intro m2 hm2
   rw [dP (by simp; omega), aP]
   refine hZ _ ?_
   rw [List.map_append, hm2 hl, List.map_cons, List.map_nil, wo hv hl he, acs hv hl he]
 ·rintro m rfl
  rw [o3, aP]
  show Ok (bif !cu (ofA t r seq cl) then _ else _) _
  cases cu (ofA t r seq cl)
  ·exact Ok.s rfl
  ·exact Ok.s rfl
theorem ap1 {α : Type} {p : α → α → Bool} {l : List α} (h : l.Pairwise fun a b => p a b = true) : fk p l = true := mG h
/-- what makes the vz of a aJ valid -/
theorem abn {t : aD} (hv : Vt t) {r : Int} (hr : r ∈ ids t) (seq : Int) (cl : List bz) : cu (ofA t r seq cl) = (inB seq 1 1000000 && (decide ((cl.length : Int) ≤ 8) && (cl.all jU && rI cl))) := by
 have h23 := wq hv hr
 have hr99 : inB r 1 99 = true := by
  obtain ⟨x, hx, e⟩ := List.mem_map.1 hr
  have := hv.idr x hx
  simp only [inB, Bool.and_eq_true, decide_eq_true_eq]; omega
 have vG : ((gz t r).map (oG t r)).all (kG (ofA t r seq cl)) = true := by
  rw [List.all_eq_true]
  intro x hx
  obtain ⟨n, hn, rfl⟩ := List.mem_map.1 hx
  have acI := (lG hv).1 hn
  obtain ⟨y, hy, e⟩ := List.mem_map.1 (x6 hv acI)
  have hid := hv.idr y hy
  obtain ⟨l, hl, hc⟩ := nJ.1 acI
  have hlt := hv.lt l hl
  have hb := hv.okl l hl
  simp only [uS, qO, Bool.or_eq_false_iff, Bool.not_eq_false', Bool.and_eq_true, decide_eq_true_eq, decide_eq_false_iff_not] at hb
  have hne := acu hv acI
  rw [wo hv hl (by simp [eR]; omega)]
  have hp : 1 ≤ (kV r n l).1 ∧ (kV r n l).1 ≤ 1000 := by
   unfold kV
   simp only
   cases (decide (l.A = r) && decide (l.B = n)) <;> simp <;> omega
  have er : (ofA t r seq cl).ak = r := rfl
  simp only [kG, inB, er, Bool.and_eq_true, decide_eq_true_eq, Bool.not_eq_true', decide_eq_false_iff_not]
  exact ⟨⟨⟨⟨by omega, by omega⟩, fun h => hne h.symm⟩, hp⟩, by omega, by omega⟩
 have ah9 : ug ((gz t r).map (oG t r)) = true := by
  refine ap1 (List.pairwise_map.2 ((ue hv r).imp fun h => ?_))
  simp only [adr, decide_eq_true_eq]; exact h
 have e1 : (ofA t r seq cl).Links = (gz t r).map (oG t r) := rfl
 unfold cu
 rw [e1, vG, ah9]
 have e2 : decide ((((gz t r).map (oG t r)).length : Int) ≤ 23) = true := by simp; omega
 rw [e2]
 show (inB r 1 99 && inB seq 1 1000000 && true && (true && true) && (decide ((cl.length : Int) ≤ 8) && (cl.all jU && rI cl))) = _
 rw [hr99]; simp
end Go.Proofs.YtpmifmdidfgpdaaGreat

/- Plain: the vX bB the tape air xY ah2 are valid. No condition. -/
namespace Go.Proofs.YtpmifmdidfgpdaaGreat
set_option linter.all false
open Go
/-- one link of the tape, ahead of the order -/
def coL (l m : aQ) : Prop := l.B < m.B ∨ (l.B = m.B ∧ l.A < m.A)
theorem afk {l : List aQ} (hl : l.length ≤ 1000000) (hd : l.Pairwise coL) : Ok (qx l) (fun m => m.Pairwise (fun a b => ltL a b = true) ∧ (∀ x, x ∈ m ↔ x ∈ l) ∧ m.length = l.length) := by
 unfold qx
 refine Ok.pQ (fun P m => m.Pairwise (fun a b => ltL a b = true) ∧ (∀ x, x ∈ m ↔ x ∈ P) ∧ m.length = P.length) ?_ _ ⟨by simp, by simp, rfl⟩ fun s hs => Ok.s hs
 rintro P x r s Z hL ⟨i1, i2, i3⟩ hZ
 have hP : P.length < l.length := by rw [hL]; simp
 have hne : ∀ y ∈ s, ltL y x = false → ltL x y = true := fun y hy h => by
  rw [hL] at hd
  have := (List.pairwise_append.1 hd).2.2 y ((i2 y).1 hy) x (by simp)
  simp only [ltL, Bool.or_eq_false_iff, Bool.and_eq_false_iff, decide_eq_false_iff_not, Bool.or_eq_true, Bool.and_eq_true, decide_eq_true_eq] at *
  unfold coL at this
  omega
 refine Ok.whl (fun at1 : Int => (0 ≤ at1 ∧ at1 ≤ s.length) ∧ ∀ y ∈ s.take at1.toNat, ltL y x = true) (fun at1 => ((s.length : Int) - at1).toNat) ⟨by omega, by simp⟩ (by omega) ?_
 rintro a Z2 ⟨⟨ha0, ha1⟩, hlt⟩ hZ2
 refine Ok.jn (fun v : Bool => (v = true → ∃ h : a.toNat < s.length, ltL s[a.toNat] x = true) ∧ (v = false → ∀ h : a.toNat < s.length, ltL s[a.toNat] x = false)) ?_ ?_
 ·rintro v ⟨hv, hv2⟩
  refine Ok.cs (fun h => ?_) fun h => ?_
  ·obtain ⟨h1, h2⟩ := hv h
   rw [ct (by omega) (by omega)]
   refine hZ2 _ ⟨by omega, fun y hy => ?_⟩ (by omega)
   rw [show (a + 1).toNat = a.toNat + 1 by omega, List.take_succ_eq_append_getElem h1] at hy
   rcases List.mem_append.1 hy with hy | hy
   ·exact hlt y hy
   ·simp at hy; subst hy; exact h2
  ·have hv2 := hv2 h
   refine Ok.bnd (zX ⟨by omega, by omega, by omega⟩) fun l1 h1 => ?_
   refine Ok.bnd (gT (by simp; omega)) fun l2 h2 => ?_
   refine Ok.bnd (gT (by simp at h2 ⊢; omega)) fun l3 h3 => ?_
   refine Ok.bnd (zX ⟨by omega, by omega, by omega⟩) fun l4 h4 => ?_
   refine Ok.bnd (gT (by simp at h2 h3 ⊢; omega)) fun l5 h5 => ?_
   have e5 : l5 = s.take a.toNat ++ x :: s.drop a.toNat := by
    rw [h5.1, h3.1, h2.1, h1.1, h4.1]; simp
   have hgt : ∀ y ∈ s.drop a.toNat, ltL x y = true := fun y hy => by
    have hlen : a.toNat < s.length := by
     have := List.length_pos_of_mem hy
     rw [List.length_drop] at this; omega
    rw [List.drop_eq_getElem_cons hlen] at hy
    have h0 := hne _ (List.getElem_mem hlen) (hv2 hlen)
    rcases List.mem_cons.1 hy with rfl | hy
    ·exact h0
    ·have hp : (s.drop a.toNat).Pairwise (fun a b => ltL a b = true) := i1.sublist (List.drop_sublist _ _)
     rw [List.drop_eq_getElem_cons hlen, List.pairwise_cons] at hp
     exact uH _ _ _ h0 (hp.1 y hy)
   refine hZ _ ⟨?_, fun y => ?_, ?_⟩
   ·rw [e5]
    refine List.pairwise_append.2 ⟨i1.sublist (List.take_sublist _ _), List.pairwise_cons.2 ⟨hgt, i1.sublist (List.drop_sublist _ _)⟩, fun y hy z hz => ?_⟩
    rcases List.mem_cons.1 hz with rfl | hz
    ·exact hlt y hy
    ·exact uH _ _ _ (hlt y hy) (hgt z hz)
   ·have hs := List.take_append_drop a.toNat s
    have : y ∈ s ↔ y ∈ s.take a.toNat ∨ y ∈ s.drop a.toNat := by rw [← List.mem_append, hs]
    rw [e5, List.mem_append, List.mem_cons, List.mem_append, List.mem_singleton, ← i2 y, this]
    constructor
    ·rintro (h | h | h); exact .inl (.inl h); exact .inr h; exact .inl (.inr h)
    ·rintro ((h | h) | h); exact .inl h; exact .inr (.inr h); exact .inr (.inl h)
   ·rw [e5]; simp; omega
 ·intro J hJ
  refine Ok.cs (fun h => ?_) fun h => hJ _ ⟨by simp, fun _ h2 => by simp at h; omega⟩
  simp at h
  refine Ok.bnd (qN ha0 h) fun e he => ?_
  obtain ⟨h1, h2⟩ := List.getElem?_eq_some_iff.1 he.2
  subst h2
  refine Ok.cs (fun g => hJ _ ⟨fun _ => ⟨h1, by simp [ltL]; simp at g; omega⟩, by simp⟩) fun g => ?_
  refine Ok.cs (fun g2 => ?_) fun g2 => hJ _ ⟨by simp, fun _ _ => by simp [ltL]; simp at g g2; omega⟩
  refine hJ _ ⟨fun hd => ⟨h1, ?_⟩, fun hd _ => ?_⟩
  ·simp at g g2 hd; simp [ltL]; omega
  ·simp at g g2 hd; simp [ltL]; omega
def aaW (l : aQ) : Prop := 1 ≤ l.A ∧ l.A < l.B ∧ (1 ≤ l.ja ∧ l.ja ≤ 5) ∧ (1 ≤ l.iF ∧ l.iF ≤ 5) ∧ 0 ≤ l.bY ∧ l.bY ≤ 3
/-- a zu of the tape: the mE from 1 on -/
structure Vg (g : aD) (most : Int) : Prop where
 v : Vt g
 n : 1 ≤ g.aI.length ∧ (g.aI.length : Int) ≤ most
 i : ∀ r ∈ g.aI, r.ID ≤ most
theorem ac3 {t : aR} {most : Int} (h : cG t) (hm : 1 ≤ most ∧ most ≤ 8) : Ok (jj t most 0) (fun p => Vg p.1 most ∧ cG p.2) := by
 unfold jj
 refine Ok.bnd (oy h) fun p hp => ?_
 obtain ⟨hk, hp⟩ := hp
 have hk := hk (by omega) (by omega) (by omega)
 refine Ok.chk (by simp; omega) ?_
 refine Ok.gr (fun j (m : List aY) => (m.length : Int) = j - 1 ∧ m.Pairwise (fun a b => a.ID < b.ID) ∧ (∀ r ∈ m, 1 ≤ r.ID ∧ r.ID < j) ∧ ∀ i, 1 ≤ i → i < j → ∃ r ∈ m, r.ID = i) 1 (p.1 + 1) ?_ ?_ _ _ _ rfl (by omega) (by omega) ⟨by simp, by simp, by simp, fun i h1 h2 => by omega⟩
 ·rintro i s Z h1 h2 ⟨hI, hI2, hI3, hI4⟩ hZ
  refine Ok.bnd (gT (by simp; omega)) fun l1 hl1 => hZ _ ⟨by have := hl1.2; simp at this; omega, ?_, ?_, ?_⟩
  ·rw [hl1.1]
   refine List.pairwise_append.2 ⟨hI2, by simp, fun a ha b hb => ?_⟩
   have := hI3 a ha
   simp at hb; subst hb; exact this.2
  ·rw [hl1.1]; intro r hr
   rcases List.mem_append.1 hr with hr | hr
   ·have := hI3 r hr; omega
   ·simp at hr; subst hr; simp only; omega
  ·rw [hl1.1]; intro j h3 h4
   by_cases e : j = i
   ·exact ⟨aY.mk i true, List.mem_append_right _ (by simp), e.symm⟩
   ·obtain ⟨r, hr, e2⟩ := hI4 j h3 (by omega)
    exact ⟨r, List.mem_append_left _ hr, e2⟩
 rintro i rs hi1 hi2 ⟨hrs, hrs2, ap2, ap3⟩
 have hi2 := hi2 (by omega)
 subst hi2
 refine Ok.bnd (j7 hp (by decide) (by decide)) fun c hc => ?_
 have abG : 1 ≤ c.1 ∧ c.1 ≤ 5 := by have := hc.1; simp at this; omega
 refine Ok.chk (by simp; omega) ?_
 refine Ok.gr (fun j (s : List aQ × List Int × Int) => ((s.1.length : Int) ≤ 8 * (j - 2) ∧ (∀ l ∈ s.1, aaW l ∧ l.B < j) ∧ s.1.Pairwise coL) ∧ cG (aR.mk s.2.1 s.2.2)) 2 (if 2 ≤ p.1 + 1 then p.1 + 1 else 2) ?_ ?_ _ _ _ ?_ (by omega) ?_ ⟨by simp, hc.2⟩
 ·intro b s Z hb1 hb2 hI hZ
  have hb3 : b < p.1 + 1 := by split at hb2 <;> omega
  obtain ⟨ms, L, At⟩ := s
  obtain ⟨⟨hlen, hok, hpw⟩, ht⟩ := hI
  simp only at hlen hok hpw
  refine Ok.bnd (oy ht) fun tr htr => ?_
  refine Ok.bnd (vt htr.2 (by omega)) fun sk hsk => ?_
  refine Ok.chk (by simp; omega) ?_
  refine Ok.gr (fun a (s : List aQ × List Int × Int) => ((s.1.length : Int) ≤ 8 * (b - 2) + (a - 1) ∧ (∀ l ∈ s.1, aaW l ∧ (l.B < b ∨ l.B = b ∧ l.A < a)) ∧ s.1.Pairwise coL) ∧ cG (aR.mk s.2.1 s.2.2)) 1 b ?_ ?_ _ _ _ rfl (by omega) (by omega) ⟨⟨by simp only; omega, fun l hl => ⟨(hok l hl).1, .inl (hok l hl).2⟩, hpw⟩, hsk⟩
  ·intro a s Z3 ha1 ha2 hI3 hZ3
   obtain ⟨m5, m6, m7⟩ := s
   obtain ⟨⟨hl5, uU, aaX⟩, ht5⟩ := hI3
   simp only at hl5 uU aaX
   refine Ok.jn (fun s : List Int × Int × List aQ => ((s.2.2.length : Int) ≤ 8 * (b - 2) + a ∧ (∀ l ∈ s.2.2, aaW l ∧ (l.B < b ∨ l.B = b ∧ l.A < a + 1)) ∧ s.2.2.Pairwise coL) ∧ cG (aR.mk s.1 s.2.1)) (fun s hs => hZ3 _ ⟨by have h := hs.1; obtain ⟨_, _, _⟩ := s; simp only at h ⊢; exact ⟨by omega, h.2⟩, hs.2⟩) fun J1 hJ1 => ?_
   refine Ok.jn (fun s : Bool × List Int × Int => cG (aR.mk s.2.1 s.2.2)) (fun s hs => ?_) fun J2 hJ2 => ?_
   ·obtain ⟨v, m11, m12⟩ := s
    refine Ok.cs (fun _ => ?_) fun _ => hJ1 _ ⟨⟨by simp only; omega, fun l hl => ⟨(uU l hl).1, by have := (uU l hl).2; omega⟩, aaX⟩, hs⟩
    refine Ok.bnd (oy hs) fun q7 h7 => ?_
    refine Ok.bnd (oy h7.2) fun q8 h8 => ?_
    refine Ok.bnd (fM h8.2 (by omega)) fun q9 h9 => ?_
    have c7 := h7.1 (by omega) (by omega) (by omega)
    have c8 := h8.1 (by omega) (by omega) (by omega)
    have c9 := h9.1.2.1 (by omega)
    have c90 := h9.1.1
    refine Ok.bnd (gT (by simp; omega)) fun l2 hl2 => hJ1 _ ⟨⟨by have := hl2.2; rw [List.length_cons, List.length_nil] at this; simp only; omega, ?_, ?_⟩, h9.2⟩
    ·simp only [hl2.1]; intro l hl
     rcases List.mem_append.1 hl with hl | hl
     ·exact ⟨(uU l hl).1, by have := (uU l hl).2; omega⟩
     ·simp only [List.mem_singleton] at hl; subst hl
      exact ⟨⟨ha1, ha2, ⟨c7.1, Int.le_trans c7.2 abG.2⟩, ⟨c8.1, Int.le_trans c8.2 abG.2⟩, c90, by show q9.1 ≤ 3; omega⟩, .inr ⟨rfl, by show a < a + 1; omega⟩⟩
    ·simp only [hl2.1]
     refine List.pairwise_append.2 ⟨aaX, by simp, fun l hl m hm => ?_⟩
     have := (uU l hl).2
     simp at hm; subst hm; unfold coL; simp only; omega
   ·refine Ok.cs (fun _ => ?_) fun _ => Ok.bnd (vt ht5 (by omega)) fun q h => hJ2 _ h
    exact Ok.cs (fun _ => hJ2 _ ht5) fun _ => Ok.bnd (vt ht5 (by omega)) fun q h => hJ2 _ h
  ·intro a s ha1 ha2 hI3
   have ha2 := ha2 (by omega)
   obtain ⟨m5, m6, m7⟩ := s
   obtain ⟨⟨hl5, uU, aaX⟩, ht5⟩ := hI3
   simp only at hl5 uU aaX
   exact hZ _ ⟨⟨by simp only; omega, fun l hl => ⟨(uU l hl).1, by have := (uU l hl).2; omega⟩, aaX⟩, ht5⟩
 ·intro b s hb1 hb2 hI
  have hb2 := hb2 (by split <;> omega)
  have hb3 : b ≤ 9 := by split at hb2 <;> omega
  obtain ⟨m2, m3, m4⟩ := s
  obtain ⟨⟨hlen, hok, hpw⟩, ht⟩ := hI
  simp only at hlen hok hpw
  refine Ok.bnd (afk (by omega) hpw) fun l hl => ?_
  obtain ⟨hl1, hl2, hl3⟩ := hl
  have hV : Vg (aD.mk rs l) most := by
   have hb4 : b = p.1 + 1 := by split at hb2 <;> omega
   have aes : ∀ x ∈ l, aaW x ∧ x.B < p.1 + 1 := fun x hx => by
    have := hok x ((hl2 x).1 hx)
    exact ⟨this.1, by omega⟩
   refine ⟨⟨by simp only; omega, by simp only; omega, fun r hr => by have := ap2 r hr; omega, hrs2, fun x hx => ?_, fun x hx => ?_, fun x hx => (aes x hx).1.2.1, hl1⟩, by simp only; omega, fun r hr => by have := ap2 r hr; omega⟩
   ·have := (aes x hx).1
    unfold aaW at this
    have c1 : qO x.ja = true := by simp [qO]; omega
    have c2 : qO x.iF = true := by simp [qO]; omega
    simp only [uS, c1, c2, Bool.not_true, Bool.or_self, Bool.false_or, Bool.or_eq_false_iff, decide_eq_false_iff_not]
    omega
   ·have := aes x hx
    unfold aaW at this
    obtain ⟨r1, g1, g2⟩ := ap3 x.A (by omega) (by omega)
    obtain ⟨r2, g3, g4⟩ := ap3 x.B (by omega) (by omega)
    exact ⟨vY.2 ⟨r1, g1, g2⟩, vY.2 ⟨r2, g3, g4⟩⟩
  simp only [jn]
  exact Ok.s ⟨hV, ht⟩
 ·split <;> omega
 ·split <;> omega
end Go.Proofs.YtpmifmdidfgpdaaGreat

/- Plain: the vz of a aJ of a zu, by the program. No condition but bT bB stand in each. -/
namespace Go.Proofs.YtpmifmdidfgpdaaGreat
set_option linter.all false
open Go
def ofE (r : Int) (l : aQ) : Option bu := if r = l.A then some (bu.mk l.B l.ja l.bY) else if r = l.B then some (bu.mk l.A l.iF l.bY) else none
theorem aif {t : aD} (hv : Vt t) (r : Int) : t.Links.filterMap (ofE r) = (gz t r).map (oG t r) := by
 have hne : ∀ l ∈ t.Links, l.A < l.B := fun l hl => hv.lt l hl
 refine sZ (r := fun a b : bu => a.bw < b.bw) (fun a => Int.lt_irrefl _) (fun a b c => Int.lt_trans) ?_ ?_ fun x => ?_
 ·rw [List.pairwise_filterMap]
  refine List.Pairwise.imp_of_mem (fun {l m} hl hm hlt x hx y hy => ?_) hv.acp
  have h1 := hne l hl; have h2 := hne m hm
  have h3 := amF.1 hlt
  unfold ofE at hx hy
  split at hx
  ·cases hx
   split at hy
   ·cases hy; simp only; omega
   ·split at hy
    ·cases hy; simp only; omega
    ·cases hy
  ·split at hx
   ·cases hx
    split at hy
    ·cases hy; simp only; omega
    ·split at hy
     ·cases hy; simp only; omega
     ·cases hy
   ·cases hx
 ·exact List.pairwise_map.2 ((ue hv r).imp fun h => by simp only [adr]; exact h)
 ·rw [List.mem_filterMap, List.mem_map]
  constructor
  ·rintro ⟨l, hl, hx⟩
   have h1 := hne l hl
   unfold ofE at hx
   split at hx
   ·cases hx; rename_i e; subst e
    exact ⟨l.B, (lG hv).2 (nJ.2 ⟨l, hl, .inl ⟨rfl, rfl⟩⟩), adt hv hl⟩
   ·split at hx
    ·cases hx; rename_i e; subst e
     exact ⟨l.A, (lG hv).2 (nJ.2 ⟨l, hl, .inr ⟨rfl, rfl⟩⟩), adu hv hl⟩
    ·cases hx
  ·rintro ⟨n, hn, rfl⟩
   obtain ⟨l, hl, hc⟩ := nJ.1 ((lG hv).1 hn)
   have h1 := hne l hl
   refine ⟨l, hl, ?_⟩
   unfold ofE
   rcases hc with ⟨rfl, rfl⟩ | ⟨rfl, rfl⟩
   ·rw [if_pos rfl, adt hv hl]
   ·rw [if_neg (by omega), if_pos rfl, adu hv hl]
end Go.Proofs.YtpmifmdidfgpdaaGreat

/- Plain: aad: adM vX, nodes, checks and own vu, by both. No condition but bT bB stand in each. -/
namespace Go.Proofs.YtpmifmdidfgpdaaGreat
set_option linter.all false
open Go
theorem sB {α γ β : Type} (f : α → γ) {K : List γ → Option β} : ∀ (l : List α) (j : Nat) (s : List γ), s.length + l.length ≤ 1000000 → bN l j (fun (_ : Int) (e : α) (Z : List γ → Option β) (o : List γ) => bnd (cM o ([f e] : List γ)) fun l => Z l) K s = K (s ++ l.map f)
 | [], _, s, _ => by simp [bN]
 | x :: r, j, s, h => by
  simp only [bN]
  simp only [List.length_cons] at h
  rw [dP (by simp; omega), aP, sB f r (j + 1) _ (by simp; omega)]
  simp
def gj (f : aB) : aD := aD.mk (f.aC.map fun n => aY.mk n.ak n.aX) f.Links
def SmF (f : aB) : Prop := f.Links.length ≤ 100000 ∧ f.aC.length ≤ 100000
theorem sC {f : aB} (h : SmF f) : ez f = some (gj f) := by
 unfold ez
 rw [sB (fun n : aV => aY.mk n.ak n.aX) f.aC 0 [] (by have := h.2; simp; omega)]
 rfl
theorem adv {l : List aQ} (h : l.length ≤ 100000) : cW l = some l := by
 unfold cW dH
 rw [dP (by simp; omega)]; rfl
theorem aae {f : aB} (h : SmF f) : dI f = some (gj f) := by
 unfold dI
 rw [adv h.1, aP, sB (fun n : aV => aY.mk n.ak n.aX) f.aC 0 [] (by have := h.2; simp; omega)]
 rfl
/-! the place of a node -/
def sO (r : Int) : List aV → Nat → Int
 | [], _ => -1
 | x :: l, j => bif decide (x.ak = r) then (j : Int) else sO r l (j + 1)
theorem xz {B : Int → aV → (Unit → Option Int) → Unit → Option Int} {K : Unit → Option Int} {r : Int} (hB : ∀ j x Z s, B j x Z s = bif decide (x.ak = r) then some j else Z s) (hK : ∀ s, K s = some (-1)) : ∀ (l : List aV) (j : Nat) (s : Unit), bN l j B K s = some (sO r l j)
 | [], _, s => hK s
 | x :: l, j, s => by
  simp only [bN, hB, sO, xz hB hK l (j + 1) s]
  cases decide (x.ak = r) <;> rfl
def iW (f : aB) (r : Int) : Int := sO r f.aC 0
theorem xA (f : aB) (r : Int) : iA f r = some (iW f r) := by
 unfold iA
 exact xz (fun j x Z s => rfl) (fun s => rfl) f.aC 0 ()
theorem adw (f : aB) (r : Int) : fI f r = some (iW f r, decide (0 ≤ iW f r)) := by
 unfold fI dY
 rw [xz (r := r) (fun j x Z s => by simp only [lY, aP]) (fun s => rfl)]
 rfl
theorem adx (r : Int) : ∀ (l p : List aV), (sO r l p.length = -1 ∧ ∀ x ∈ l, x.ak ≠ r) ∨ ∃ a x b, l = a ++ x :: b ∧ sO r l p.length = ((p.length + a.length : Nat) : Int) ∧ x.ak = r
 | [], _ => .inl ⟨rfl, by simp⟩
 | x :: l, p => by
  by_cases h : x.ak = r
  ·exact .inr ⟨[], x, l, rfl, by simp [sO, h], h⟩
  ·have := adx r l (p ++ [x])
   simp only [List.length_append, List.length_cons, List.length_nil] at this
   rcases this with ⟨h1, h2⟩ | ⟨a, y, b, h1, h2, h3⟩
   ·exact .inl ⟨by simp only [sO, h, decide_false, cond_false]; exact h1, fun z hz => by
     rcases List.mem_cons.1 hz with rfl | hz
     ·exact h
     ·exact h2 z hz⟩
   ·exact .inr ⟨x :: a, y, b, by rw [h1]; rfl, by simp only [sO, h, decide_false, cond_false]; rw [h2]; simp; omega, h3⟩
theorem wu (f : aB) (r : Int) : (iW f r = -1 ∧ ∀ x ∈ f.aC, x.ak ≠ r) ∨ ∃ a x b, f.aC = a ++ x :: b ∧ iW f r = (a.length : Int) ∧ x.ak = r := by
 have := adx r f.aC []
 simpa [iW] using this
/-! the check -/
def kW (l : List bz) : Bool := decide ((l.length : Int) ≤ 8) && (l.all jU && rI l)
def okN (n : aV) : Bool := decide (0 ≤ n.Seq) && (decide (n.Seq ≤ 1000000) && (kW n.Claims && decide (dbC n.Database = 0)))
def okM (f : aB) (m : bn) : Bool := decide (0 ≤ iW f m.gW) && (decide (0 ≤ iW f m.To) && (!decide (m.gW = m.To) && decide (dbC m.Database = 0)))
def um (f : aB) : Bool := decide (mF (gj f) = 0) && (!decide ((400:Int) < (f.aA.length:Int)) && (f.aC.all okN && f.aA.all (okM f)))
theorem wz {α β : Type} {B : Int → α → (Unit → Option β) → Unit → Option β} {K : Unit → Option β} (p : α → Bool) (a : Option β) (l : List α) (hB : ∀ j, ∀ x ∈ l, ∀ Z, B j x Z () = bif p x then Z () else a) : ∀ (j : Nat), bN l j B K () = bif l.all p then K () else a := by
 induction l with
 | nil => intro j; rfl
 | cons x r ih =>
  intro j
  simp only [bN]
  rw [hB _ x (by simp), ih (fun j y hy => hB j y (by simp [hy])), List.all_cons]
  cases p x <;> rfl
theorem yC {f : aB} (h : SmF f) : kT f = some (um f) := by
 unfold kT um
 simp only [jn, sC h, sv, aP]
 by_cases h1 : mF (gj f) = 0
 ·by_cases h2 : (400:Int) < (f.aA.length:Int)
  ·simp [h1, h2]
  ·simp only [h1, h2, decide_true, decide_false, Bool.not_true, Bool.not_false, cond_false, Bool.true_and]
   rw [wz okN (some false) f.aC]
   ·rw [wz (okM f) (some false) f.aA]
    ·cases f.aC.all okN <;> cases f.aA.all (okM f) <;> rfl
    ·intro j x hx Z
     simp only [xA, rO, aP, okM]
     by_cases a1 : iW f x.gW < 0
     ·simp [a1, show ¬ 0 ≤ iW f x.gW by omega]
     by_cases a2 : iW f x.To < 0
     ·simp [a1, a2, show ¬ 0 ≤ iW f x.To by omega]
     by_cases a3 : x.gW = x.To
     ·simp [a1, a2, a3]
     ·cases h4 : decide (dbC x.Database = 0) <;> simp [a1, a2, a3, h4, show 0 ≤ iW f x.gW by omega, show 0 ≤ iW f x.To by omega]
   ·intro j x hx Z
    simp only [xx, rO, aP, okN, kW]
    by_cases a1 : x.Seq < 0
    ·simp [a1, show ¬ 0 ≤ x.Seq by omega]
    by_cases a2 : 1000000 < x.Seq
    ·simp [a1, a2, show ¬ x.Seq ≤ 1000000 by omega]
    ·simp only [a1, a2, decide_false, cond_false, show 0 ≤ x.Seq by omega, show x.Seq ≤ 1000000 by omega, decide_true, Bool.true_and]
     cases (decide ((x.Claims.length : Int) ≤ 8) && (x.Claims.all jU && rI x.Claims)) <;> cases h4 : decide (dbC x.Database = 0) <;> simp
 ·simp [h1]
theorem qb {f : aB} {n : aV} (hn : n ∈ f.aC) : n.ak ∈ ids (gj f) := by
 unfold ids gj
 simp only [List.map_map]
 exact List.mem_map.2 ⟨n, hn, rfl⟩
theorem ac4 {t : aD} (hv : Vt t) {r : Int} (hr : r ∈ ids t) : inB r 1 99 = true := by
 obtain ⟨x, hx, rfl⟩ := List.mem_map.1 hr
 have := hv.idr x hx
 simp [inB]; omega
theorem aih {f : aB} (h : SmF f) : eY f = some (bif um f then 0 else 1) := by
 unfold eY um
 simp only [jn, aae h, xo, aP]
 by_cases h1 : mF (gj f) = 0
 ·have hv := nE.1 h1
  by_cases h2 : (400:Int) < (f.aA.length:Int)
  ·simp [h1, h2]
  ·simp only [h1, h2, decide_true, decide_false, Bool.not_true, Bool.not_false, cond_false, Bool.true_and]
   rw [wz okN (some 1) f.aC]
   ·rw [wz (okM f) (some 1) f.aA]
    ·cases f.aC.all okN <;> cases f.aA.all (okM f) <;> rfl
    ·intro j x hx Z
     simp only [adw, wg, aP, okM]
     cases a1 : decide (0 ≤ iW f x.gW) <;> cases a2 : decide (0 ≤ iW f x.To) <;> cases a3 : decide (x.gW = x.To) <;> cases h4 : decide (dbC x.Database = 0) <;> simp
   ·intro j x hx Z
    have hr := ac4 hv (qb hx)
    have hval : cu (aj.mk x.ak 1 false [] x.Claims) = kW x.Claims := by
     simp only [cu, hr, kW, List.all_nil, ug, fk, List.length_nil, Bool.true_and, Bool.and_true]
     rfl
    simp only [rJ, hval, wg, aP, okN]
    by_cases a1 : x.Seq < 0
    ·simp [a1, show ¬ 0 ≤ x.Seq by omega]
    by_cases a2 : 1000000 < x.Seq
    ·simp [a1, a2, show ¬ x.Seq ≤ 1000000 by omega]
    ·simp only [a1, a2, decide_false, cond_false, show 0 ≤ x.Seq by omega, show x.Seq ≤ 1000000 by omega, decide_true, Bool.true_and]
     cases kW x.Claims <;> cases h4 : decide (dbC x.Database = 0) <;> simp
 ·simp [h1]
/-! a valid flood -/
structure Vf (f : aB) : Prop where
 t : Vt (gj f)
 m : f.aA.length ≤ 400
 n : ∀ n ∈ f.aC, (0 ≤ n.Seq ∧ n.Seq ≤ 1000000) ∧ kW n.Claims = true ∧ Vd n.Database
 g : ∀ m ∈ f.aA, 0 ≤ iW f m.gW ∧ 0 ≤ iW f m.To ∧ m.gW ≠ m.To ∧ Vd m.Database
theorem afl {f : aB} : um f = true ↔ Vf f := by
 unfold um
 simp only [Bool.and_eq_true, decide_eq_true_eq, Bool.not_eq_true', decide_eq_false_iff_not, List.all_eq_true, okN, okM]
 constructor
 ·rintro ⟨h1, h2, h3, h4⟩
  exact ⟨nE.1 h1, by omega, fun n hn => by have := h3 n hn; exact ⟨⟨this.1, this.2.1⟩, this.2.2.1, kj.1 this.2.2.2⟩, fun m hm => by have := h4 m hm; exact ⟨this.1, this.2.1, this.2.2.1, kj.1 this.2.2.2⟩⟩
 ·intro h
  exact ⟨nE.2 h.t, by have := h.m; omega, fun n hn => by have := h.n n hn; exact ⟨this.1.1, this.1.2, this.2.1, kj.2 this.2.2⟩, fun m hm => by have := h.g m hm; exact ⟨this.1, this.2.1, this.2.2.1, kj.2 this.2.2.2⟩⟩
theorem Vf.len {f : aB} (h : Vf f) : f.aC.length ≤ 24 := by have := h.t.nr; simpa [gj] using this
theorem Vf.asc {f : aB} (h : Vf f) : f.aC.Pairwise fun a b => a.ak < b.ak := by
 have := h.t.asc
 simp only [gj, List.pairwise_map] at this
 exact this
theorem Vf.idx {f : aB} (h : Vf f) {a b : List aV} {n : aV} (hL : f.aC = a ++ n :: b) : iW f n.ak = (a.length : Int) := by
 have hp := h.asc
 rw [hL] at hp
 rcases wu f n.ak with ⟨_, h2⟩ | ⟨a', x, b', h1, h2, h3⟩
 ·exact absurd rfl (h2 n (by rw [hL]; simp))
 ·rw [h2]
  have hl : a'.length = a.length := by
   have q1 := List.pairwise_iff_getElem.1 h.asc
   have e1 : ∀ (h : a.length < f.aC.length), f.aC[a.length] = n := fun h => by simp [hL]
   have e2 : ∀ (h : a'.length < f.aC.length), f.aC[a'.length] = x := fun h => by simp [h1]
   have l1 : a.length < f.aC.length := by rw [hL]; simp
   have l2 : a'.length < f.aC.length := by rw [h1]; simp
   rcases Nat.lt_trichotomy a.length a'.length with q | q | q
   ·have := q1 _ _ l1 l2 q; rw [e1, e2] at this; omega
   ·exact q.symm
   ·have := q1 _ _ l2 l1 q; rw [e1, e2] at this; omega
  rw [hl]
/-! own vu -/
theorem aul {t : aD} (hv : Vt t) {r : Int} (hr : r ∈ ids t) (seq : Int) {cl : List bz} (hc : cl.length ≤ 100000) : oU t r seq cl = some (bif cu (ofA t r seq cl) then (ofA t r seq cl, 0) else (noA, 2)) := by
 have hl24 := hv.nr; have ap4 := hv.nl
 obtain ⟨b, hb1, hb2⟩ := ael t r (by omega)
 have hcap : b = aer t r := some_inj (hb2.symm.trans (acH hv r))
 subst hcap
 refine Ok.eq ?_
 unfold oU
 simp only [xo, amx t r (show t.aI.length ≤ 1000000 by omega), hb1, aP, nE.2 hv, aaN.1 hr, decide_true, Bool.not_true, cond_false, Bool.true_and]
 rw [dP (by simp; omega), aP]
 refine Ok.pQ (fun P (m : List bu) => m = P.filterMap (ofE r) ∧ m.length ≤ P.length) ?_ _ ⟨rfl, by simp⟩ ?_
 ·rintro P x rest m Z hL ⟨hm, hml⟩ hZ
  have hP : P.length < t.Links.length := by rw [hL]; simp
  simp only [jn]
  refine Ok.cs (fun h => ?_) fun h => ?_
  ·have h : r = x.A := by simpa using h
   rw [dP (by simp; omega), aP]
   refine hZ _ ⟨?_, by simp; omega⟩
   rw [List.filterMap_append, hm]; simp [ofE, h]
  ·have h : r ≠ x.A := by simpa using h
   refine Ok.cs (fun h2 => ?_) fun h2 => ?_
   ·have h2 : r = x.B := by simpa using h2
    rw [dP (by simp; omega), aP]
    refine hZ _ ⟨?_, by simp; omega⟩
    have e : ofE r x = some (bu.mk x.A x.iF x.bY) := by unfold ofE; rw [if_neg h, if_pos h2]
    rw [List.filterMap_append, hm, List.filterMap_cons, e]; rfl
   ·have h2 : r ≠ x.B := by simpa using h2
    refine hZ _ ⟨?_, by simp; omega⟩
    have e : ofE r x = none := by unfold ofE; rw [if_neg h, if_neg h2]
    rw [List.filterMap_append, hm, List.filterMap_cons, e]; simp
 ·rintro m ⟨hm, _⟩
  rw [aif hv] at hm
  subst hm
  rw [rJ, aP]
  show Ok (bif !cu (ofA t r seq cl) then _ else _) _
  cases cu (ofA t r seq cl)
  ·exact Ok.s rfl
  ·exact Ok.s rfl
def zz (f : aB) (n : aV) (seq : Int) : aj × Bool := bif inB seq 1 1000000 then (ofA (gj f) n.ak seq n.Claims, true) else (noA, false)
theorem xB {f : aB} (h : Vf f) {n : aV} (hn : n ∈ f.aC) (seq : Int) : cu (ofA (gj f) n.ak seq n.Claims) = inB seq 1 1000000 := by
 rw [abn h.t (qb hn)]
 have := (h.n n hn).2.1
 unfold kW at this
 rw [this, Bool.and_true]
theorem Vf.sm {f : aB} (h : Vf f) : SmF f := by have h1 := h.len; have h2 := h.t.nl; exact ⟨by have : f.Links.length ≤ 60 := h2; omega, by omega⟩
theorem abo {f : aB} (h : Vf f) {a b : List aV} {n : aV} (hL : f.aC = a ++ n :: b) (seq : Int) : nI f (a.length : Int) seq = some (zz f n seq) := by
 have hn : n ∈ f.aC := by rw [hL]; simp
 unfold nI
 rw [sC h.sm, aP, hL, iq, aP, aie h.t (qb hn), xB h hn, aP]
 unfold zz
 cases inB seq 1 1000000 <;> rfl
theorem aaf {l : List bz} (h : kW l = true) : l.length ≤ 100000 := by
 simp only [kW, Bool.and_eq_true, decide_eq_true_eq] at h; omega
theorem afm {f : aB} (h : Vf f) {n : aV} (hn : n ∈ f.aC) : iT f n = some (bif decide (n.Seq = 0) then (noA, false) else zz f n n.Seq) := by
 unfold iT
 cases hs : decide (n.Seq = 0)
 ·simp only [cond_false]
  rw [aae h.sm, aP, aul h.t (qb hn) n.Seq (aaf (h.n n hn).2.1), xB h hn, aP]
  unfold zz
  cases inB n.Seq 1 1000000 <;> rfl
 ·rfl
/-! equality -/
end Go.Proofs.YtpmifmdidfgpdaaGreat

/- Plain: settled aad, by both; the aad of the tape. No condition but bT bB stand in each. -/
namespace Go.Proofs.YtpmifmdidfgpdaaGreat
set_option linter.all false
open Go
/-! the aad of the tape -/
def SzF (f : aB) (n : Nat) : Prop := f.Links.length ≤ 100 ∧ f.aC.length ≤ n ∧ f.aA.length ≤ n
theorem SzF.sm {f : aB} {n : Nat} (h : SzF f n) (hn : n ≤ 1000) : SmF f := ⟨by have := h.1; omega, by have := h.2.1; omega⟩
theorem afn {t : aR} {most : Int} (h : cG t) : Ok (kU t most) (fun p => cG p.2) := by
 unfold kU
 refine Ok.bnd (fM h (by omega)) fun p hp => ?_
 refine Ok.cs (fun _ => Ok.s hp.2) fun _ => ?_
 refine Ok.bnd (yA hp.2 (by omega)) fun d hd => ?_
 have hl := hd.1.2.1
 refine Ok.whl (fun s : Int × List aj => (0 ≤ s.1 ∧ s.1 ≤ s.2.length) ∧ s.2.length ≤ 7) (fun s => ((s.2.length : Int) - s.1).toNat) ⟨⟨by simp, by simp⟩, hl⟩ (by simp only; omega) ?_
 rintro ⟨i, m⟩ Z ⟨⟨h0, h1⟩, h2⟩ hZ
 simp only at h0 h1 h2
 refine Ok.cs (fun hc => ?_) fun _ => Ok.s hd.2
 have hc : i < m.length := by simpa using hc
 refine Ok.bnd (qN h0 hc) fun e _ => ?_
 refine Ok.bnd (ae2 h0 hc) fun l hl => ?_
 rw [ct (by omega) (by omega)]
 exact hZ _ ⟨⟨by simp only; omega, by simp only; omega⟩, by simp only; omega⟩ (by simp only; omega)
theorem acJ {t : aR} {mE most : Int} (h : cG t) (hr : 1 ≤ mE ∧ mE ≤ 8) : Ok (jB t mE most) (fun p => SzF p.1 8 ∧ cG p.2) := by
 unfold jB
 refine Ok.bnd (ac3 h hr) fun g hg => ?_
 obtain ⟨⟨hv, hn, _⟩, ht⟩ := hg
 have ap4 := hv.nl
 refine Ok.pQ (fun P (s : List aV × List Int × Int) => s.1.length = P.length ∧ cG (aR.mk s.2.1 s.2.2)) ?_ _ ⟨rfl, ht⟩ ?_
 ·rintro P r rest ⟨m, L, At⟩ Z hL ⟨i1, i2⟩ hZ
  have hP : P.length < g.1.aI.length := by rw [hL]; simp
  simp only at i1 i2
  refine Ok.bnd (j7 i2 (by decide) (by decide)) fun p2 h2 => ?_
  refine Ok.bnd (fM h2.2 (by omega)) fun p3 h3 => ?_
  refine Ok.bnd (afn h3.2) fun p4 h4 => ?_
  refine Ok.gr (fun j (s : List bz × List Int × Int) => (s.1.length : Int) ≤ j ∧ cG (aR.mk s.2.1 s.2.2)) 0 2 ?_ ?_ _ _ _ rfl (by omega) (by omega) ⟨by simp, h4⟩
  ·rintro j ⟨m4, m5, m6⟩ Z2 hj1 hj2 ⟨q1, q2⟩ hZ2
   simp only at q1 q2
   refine Ok.jn (fun s : List Int × Int × List bz => (s.2.2.length : Int) ≤ j + 1 ∧ cG (aR.mk s.1 s.2.1)) (fun s hs => hZ2 _ ⟨hs.1, hs.2⟩) fun J hJ => ?_
   refine Ok.bnd (fM q2 (by omega)) fun p5 h5 => ?_
   refine Ok.cs (fun _ => ?_) fun _ => hJ _ ⟨by simp only; omega, h5.2⟩
   refine Ok.bnd (oy h5.2) fun p6 h6 => ?_
   refine Ok.bnd (abf h6.2) fun p7 h7 => ?_
   refine Ok.bnd (gT (by simp; omega)) fun l hl => hJ _ ⟨by simp only; rw [hl.2]; simp; omega, h7.2⟩
  ·rintro j ⟨m4, m5, m6⟩ hj1 hj2 ⟨q1, q2⟩
   refine Ok.bnd (gT (by simp; omega)) fun l hl => hZ _ ⟨by simp only; rw [hl.2]; simp; omega, q2⟩
 ·rintro ⟨m, L, At⟩ ⟨i1, i2⟩
  simp only at i1 i2
  refine Ok.bnd (fM i2 (by omega)) fun p8 h8 => ?_
  have h84 := h8.1.2.1 (by omega)
  refine Ok.whl (fun s : Int × List bn × List Int × Int => ((s.2.1.length : Int) + s.1 ≤ 4 ∧ s.1 ≤ 4 ∧ (0 ≤ s.1 ∨ s.1 ≤ 0)) ∧ s.2.1.length ≤ 8 ∧ cG (aR.mk s.2.2.1 s.2.2.2)) (fun s => s.1.toNat) ⟨⟨by simp; omega, by simp only; omega, by simp only; omega⟩, by simp, h8.2⟩ (by simp only; omega) ?_
  rintro ⟨i, m10, m11, m12⟩ Z ⟨⟨q1, q1', _⟩, q2, q3⟩ hZ
  simp only at q1 q1' q2 q3
  refine Ok.cs (fun hc => ?_) fun _ => Ok.s ⟨⟨by show g.1.Links.length ≤ _; omega, by show m.length ≤ _; omega, q2⟩, q3⟩
  simp only [Bool.and_eq_true, decide_eq_true_eq] at hc
  refine Ok.bnd (fM q3 (by omega)) fun p9 h9 => ?_
  have h9n := h9.1.2.1 (by omega)
  have h90 := h9.1.1
  refine Ok.bnd (oy h9.2) fun p10 h10 => ?_
  rw [ct (n := (g.1.aI.length : Int) - 1) (by omega) (by omega)] at h10
  have h10 := And.intro (h10.1 (by omega) (by omega) (by omega)) h10.2
  refine Ok.bnd (ae6 (by omega)) fun p11 h11 => ?_
  have h11n := h11.2.1 (by omega)
  refine Ok.bnd (qN h90 h9n) fun e1 _ => ?_
  refine Ok.bnd (qN h11.1 h11n) fun e2 _ => ?_
  refine Ok.bnd (afn h10.2) fun p12 h12 => ?_
  refine Ok.bnd (gT (by simp; omega)) fun l hl => ?_
  rw [ct (by omega) (by omega)]
  have hl2 := hl.2
  simp only [List.length_cons, List.length_nil] at hl2
  exact hZ _ ⟨⟨by simp only; omega, by simp only; omega, by simp only; omega⟩, by simp only; omega, h12⟩ (by simp only; omega)
theorem aii {t : aR} {f : aB} {n : Int} (h : cG t) (hf : SzF f 8) (hn : n ≤ 9223372036854775807) : Ok (nC t f n) (fun p => (SmF p.1 ∧ p.1.aA.length ≤ 9 ∧ p.1.aC.length ≤ 9) ∧ cG p.2) := by
 obtain ⟨f1, f2, f3⟩ := hf
 unfold nC
 refine Ok.bnd (vt h hn) fun p1 h1 => ?_
 refine Ok.cs (fun _ => Ok.s ⟨⟨⟨by show f.Links.length ≤ _; omega, by show f.aC.length ≤ _; omega⟩, by show f.aA.length ≤ _; omega, by show f.aC.length ≤ _; omega⟩, h1⟩) fun _ => ?_
 refine Ok.jn (fun s : List Int × Int × List aQ × List aV × List bn => (s.2.2.1.length ≤ 101 ∧ s.2.2.2.1.length ≤ 9 ∧ s.2.2.2.2.length ≤ 9) ∧ cG (aR.mk s.1 s.2.1)) (fun s hs => ?_) fun J hJ => ?_
 ·obtain ⟨m1, m2, m3, m4, m5⟩ := s
  obtain ⟨⟨q1, q2, q3⟩, q4⟩ := hs
  simp only at q1 q2 q3 q4
  exact Ok.s ⟨⟨⟨by show m3.length ≤ _; omega, by show m4.length ≤ _; omega⟩, q3, q2⟩, q4⟩
 refine Ok.bnd (fM h1 (by omega)) fun p2 h2 => ?_
 have whole : ∀ {α : Type} (l : List α), Ok (kJ l 0 (l.length : Int)) (fun m => m.length = l.length) := fun l => (zX ⟨by omega, by omega, by omega⟩).mono fun m hm => by have := hm.2; omega
 refine Ok.cs (fun _ => ?_) fun _ => ?_
 ·refine Ok.bnd (whole f.Links) fun l1 e1 => ?_
  exact Ok.bnd (gT (by simp; omega)) fun l2 e2 => hJ _ ⟨⟨by simp only; rw [e2.2]; simp; omega, by simp only; omega, by simp only; omega⟩, h2.2⟩
 refine Ok.cs (fun _ => ?_) fun _ => ?_
 ·refine Ok.bnd (whole f.aC) fun l1 e1 => ?_
  refine Ok.bnd (fM h2.2 (by omega)) fun p3 h3 => Ok.bnd (x5 h3.2) fun p4 h4 => ?_
  exact Ok.bnd (gT (by simp; omega)) fun l2 e2 => hJ _ ⟨⟨by simp only; omega, by simp only; rw [e2.2]; simp; omega, by simp only; omega⟩, h4⟩
 refine Ok.cs (fun _ => ?_) fun _ => ?_
 ·refine Ok.bnd (whole f.aA) fun l1 e1 => ?_
  refine Ok.bnd (fM h2.2 (by omega)) fun p3 h3 => Ok.bnd (fM h3.2 (by omega)) fun p4 h4 => ?_
  exact Ok.bnd (gT (by simp; omega)) fun l2 e2 => hJ _ ⟨⟨by simp only; omega, by simp only; omega, by simp only; rw [e2.2]; simp; omega⟩, h4.2⟩
 refine Ok.cs (fun _ => ?_) fun _ => ?_
 ·refine Ok.bnd (whole f.aC) fun l1 e1 => ?_
  refine Ok.bnd (yA h2.2 (by omega)) fun p3 h3 => ?_
  exact Ok.bnd (gT (by simp; omega)) fun l2 e2 => hJ _ ⟨⟨by simp only; omega, by simp only; rw [e2.2]; simp; omega, by simp only; omega⟩, h3.2⟩
 ·refine Ok.bnd (whole f.aC) fun l1 e1 => ?_
  refine Ok.bnd (fM h2.2 (by omega)) fun p3 h3 => Ok.bnd (j7 h3.2 (by decide) (by decide)) fun p4 h4 => ?_
  exact Ok.bnd (gT (by simp; omega)) fun l2 e2 => hJ _ ⟨⟨by simp only; omega, by simp only; rw [e2.2]; simp; omega, by simp only; omega⟩, h4.2⟩
end Go.Proofs.YtpmifmdidfgpdaaGreat

/- Plain: nodes ajF vu, send and deliver, by both. No condition but bT bB stand in each. -/
namespace Go.Proofs.YtpmifmdidfgpdaaGreat
set_option linter.all false
open Go
theorem aaY {d : aF} (hd : SmD d) : ec d = some d := by
 refine Ok.eq ?_
 unfold ec
 refine Ok.pQ (fun P (m : List aj) => m = P) ?_ _ rfl (fun m hm => Ok.s (by rw [hm]))
 rintro P x r m Z hL rfl hZ
 have hx : x ∈ d.aq := by rw [hL]; simp
 have hl : m.length < d.aq.length := by rw [hL]; simp
 have := hd.1
 rw [afc (hd.2 x hx).1, aP, acy (hd.2 x hx).2, aP, dP (by simp; omega), aP]
 exact hZ _ rfl
theorem aij {f : aB} (h : Vf f) : gL f = some f := by
 refine Ok.eq ?_
 unfold gL
 have hs := h.sm
 rw [adv hs.1, aP]
 refine Ok.pQ (fun P (m : List aV) => m = P) ?_ _ rfl ?_
 ·rintro P x r m Z hL rfl hZ
  have hx : x ∈ f.aC := by rw [hL]; simp
  have hl : m.length < f.aC.length := by rw [hL]; simp
  have h1 := hs.2
  have hn := h.n x hx
  rw [acy (aaf hn.2.1), aP, aaY hn.2.2.sm, aP, dP (by simp; omega), aP]
  exact hZ _ rfl
 ·rintro m rfl
  refine Ok.pQ (fun P (m : List bn) => m = P) ?_ _ rfl (fun m hm => Ok.s (by rw [hm]))
  rintro P x r m Z hL rfl hZ
  have hx : x ∈ f.aA := by rw [hL]; simp
  have hl : m.length < f.aA.length := by rw [hL]; simp
  have h1 := h.m
  rw [aaY (h.g x hx).2.2.2.sm, aP, dP (by simp; omega), aP]
  exact hZ _ rfl
/-! a node in place of adg one -/
def jV (f : aB) (a : List aV) (n : aV) (b : List aV) : aB := aB.mk f.Links (a ++ n :: b) f.aA
theorem xC {f : aB} {a b : List aV} {n n' : aV} (hL : f.aC = a ++ n :: b) (hr : n'.ak = n.ak) (hc : n'.aX = n.aX) : gj (jV f a n' b) = gj f := by
 unfold gj jV
 rw [hL]; simp [hr, hc]
theorem acK (r : Int) : ∀ (l m : List aV) (j : Nat), l.map (·.ak) = m.map (·.ak) → sO r l j = sO r m j
 | [], [], _, _ => rfl
 | [], _ :: _, _, h => by simp at h
 | _ :: _, [], _, h => by simp at h
 | x :: l, y :: m, j, h => by
  simp only [List.map_cons, List.cons.injEq] at h
  simp only [sO, h.1, acK r l m (j + 1) h.2]
theorem acL {f : aB} {a b : List aV} {n n' : aV} (hL : f.aC = a ++ n :: b) (hr : n'.ak = n.ak) (r : Int) : iW (jV f a n' b) r = iW f r := by
 unfold iW jV
 exact acK r _ _ 0 (by rw [hL]; simp [hr])
theorem Vf.jV {f : aB} (h : Vf f) {a b : List aV} {n n' : aV} (hL : f.aC = a ++ n :: b) (hr : n'.ak = n.ak) (hc : n'.aX = n.aX) (hn : (0 ≤ n'.Seq ∧ n'.Seq ≤ 1000000) ∧ kW n'.Claims = true ∧ Vd n'.Database) : Vf (jV f a n' b) := by
 refine ⟨by rw [xC hL hr hc]; exact h.t, h.m, fun x hx => ?_, fun m hm => ?_⟩
 ·have hx : x ∈ a ++ n' :: b := hx
  rcases List.mem_append.1 hx with hx | hx
  ·exact h.n x (by rw [hL]; simp [hx])
  ·rcases List.mem_cons.1 hx with rfl | hx
   ·exact hn
   ·exact h.n x (by rw [hL]; simp [hx])
 ·have := h.g m hm
  rw [acL hL hr, acL hL hr]; exact this
theorem xD (f : aB) (a b : List aV) (n n' : aV) : Go.Proofs.YtpmifmdidfgpdaaGreat.jV (Go.Proofs.YtpmifmdidfgpdaaGreat.jV f a n b) a n' b = Go.Proofs.YtpmifmdidfgpdaaGreat.jV f a n' b := rfl
theorem ye {α : Type} (p : List α) (x y : α) (r : List α) : iL (p ++ x :: r) (p.length : Int) y = some (p ++ y :: r) := by
 unfold iL
 rw [if_pos ⟨by omega, by simp; omega⟩]
 simp
/-- the own vz put uL the own database -/
def acM (f : aB) (n : aV) : aV := aV.mk n.ak n.Seq n.aX n.Claims (sN n.Database (ofA (gj f) n.ak n.Seq n.Claims)).1
theorem afo {f : aB} (h : Vf f) {n : aV} (hn : n ∈ f.aC) {seq : Int} (hs : 1 ≤ seq ∧ seq ≤ 1000000) : cu (ofA (gj f) n.ak seq n.Claims) = true := by
 rw [xB h hn]; simp [inB]; omega
theorem ap6 {f : aB} (h : Vf f) {a b : List aV} {n : aV} (hL : f.aC = a ++ n :: b) (hs : 1 ≤ n.Seq) : dz (aL.mk f) (a.length : Int) = some (aL.mk (jV f a (acM f n) b)) := by
 have hn : n ∈ f.aC := by rw [hL]; simp
 have hno := h.n n hn
 have hv := afo h hn (seq := n.Seq) ⟨hs, hno.1.2⟩
 unfold dz
 have e0 : decide (n.Seq = 0) = false := by simp; omega
 have e1 : inB n.Seq 1 1000000 = true := by simp [inB]; omega
 simp only [hL, iq, aP]
 simp only [afm h hn, e0, cond_false, zz, e1, cond_true, aP]
 rw [ap0 hno.2.2.sm (Va.sm hv), if_pos ⟨kj.2 hno.2.2, hv⟩, aP, ye, aP]
 rfl
theorem aag {f : aB} {a b : List aV} {n : aV} (hL : f.aC = a ++ n :: b) (hl : f.aC.length ≤ 100000) (n' : aV) : mC f (a.length : Int) n' = some (jV f a n' b) := by
 unfold mC
 rw [dP (by simp; omega), aP, List.nil_append, hL, iq, aP, ye, aP]; rfl
theorem ac5 {f : aB} (h : Vf f) {a b : List aV} {n : aV} (hL : f.aC = a ++ n :: b) {seq : Int} (hs : 1 ≤ seq ∧ seq ≤ 1000000) : jJ f (a.length : Int) seq = some (jV f a (acM f (aV.mk n.ak seq n.aX n.Claims n.Database)) b) := by
 have hn : n ∈ f.aC := by rw [hL]; simp
 have hno := h.n n hn
 have hv := afo h hn hs
 have e1 : inB seq 1 1000000 = true := by simp [inB]; omega
 unfold jJ
 rw [show elO f.aC (a.length : Int) = some n by rw [hL]; exact iq a n b, aP, abo h hL, aP]
 simp only [zz, e1, cond_true]
 rw [abl, if_pos ⟨kj.2 hno.2.2, hv⟩, aP, aag hL (by have := h.len; omega), aP]
 rfl
theorem Vf.pub {f : aB} (h : Vf f) {a b : List aV} {n n0 : aV} (hL : f.aC = a ++ n0 :: b) (hr : n.ak = n0.ak) (hc : n.aX = n0.aX) (hs : 1 ≤ n.Seq ∧ n.Seq ≤ 1000000) (hcl : kW n.Claims = true) (hd : Vd n.Database) : Vf (Go.Proofs.YtpmifmdidfgpdaaGreat.jV f a (acM f n) b) := by
 refine h.jV hL hr hc ⟨⟨by have := hs.1; show 0 ≤ n.Seq; omega, hs.2⟩, hcl, ?_⟩
 refine hd.put ?_
 have hn0 : n0 ∈ f.aC := by rw [hL]; simp
 rw [hr, abn h.t (qb hn0)]
 have e1 : inB n.Seq 1 1000000 = true := by simp [inB]; omega
 unfold kW at hcl
 rw [e1, hcl]; rfl
/-! begin and message -/
theorem aum : SmF (aB.mk [] [] []) := ⟨by simp, by simp⟩
/-! Originate, Restart -/
/-! Send -/
def pG (f : aB) (n : aV) : List bn := (gz (gj f) n.ak).map fun x => bn.mk n.ak x n.Database
theorem amK {f : aB} (h : Vf f) {a b : List aV} {n : aV} (hL : f.aC = a ++ n :: b) (M : List bn) (hM : M.length ≤ 5000) : gm (aL.mk (aB.mk f.Links f.aC M)) (a.length : Int) = some (aL.mk (aB.mk f.Links f.aC (M ++ pG f n))) := by
 have hn : n ∈ f.aC := by rw [hL]; simp
 have e1 : elO f.aC (a.length : Int) = some n := by rw [hL]; exact iq a n b
 unfold gm
 have ht : dI (aB.mk f.Links f.aC M) = some (gj f) := aae (f := aB.mk f.Links f.aC M) h.sm
 simp only [e1, aP, ht, aaO, nE.2 h.t, if_true, aaY (h.n n hn).2.2.sm]
 have h23 := wq h.t (qb hn)
 rw [sB (fun x : Int => bn.mk n.ak x n.Database) _ 0 M (by omega)]
 rfl
/-! Lose, Double -/
def lH (f : aB) (p q : List bn) : aB := aB.mk f.Links f.aC (p ++ q)
theorem amL {α : Type} (p : List α) (x : α) (q : List α) (hl : (p ++ x :: q).length ≤ 100000) : yS (p ++ x :: q) (p.length : Int) (w64 ((p.length : Int) + 1)) = some (p ++ q) := by
 have hl2 : p.length + q.length + 1 ≤ 100000 := by simpa [Nat.add_assoc] using hl
 rw [ct (by omega) (by omega)]
 unfold yS
 rw [if_pos ⟨by omega, by omega, by simp; omega⟩]
 rw [Int.toNat_natCast, show ((p.length : Int) + 1).toNat = p.length + 1 by omega]
 simp
theorem abv {f : aB} {p q : List bn} {x : bn} (hL : f.aA = p ++ x :: q) (hl : f.aA.length ≤ 100000) : lF f (p.length : Int) = some (lH f p q) := by
 have hp : p.length + q.length + 1 = f.aA.length := by rw [hL]; simp; omega
 unfold lF
 rw [ct (by omega) (by omega)]
 have s1 : kJ f.aA 0 (p.length : Int) = some p := by
  unfold kJ; rw [if_pos ⟨by omega, by omega, by omega⟩, hL]; simp
 have s2 : kJ f.aA ((p.length : Int) + 1) (f.aA.length : Int) = some q := by
  unfold kJ; rw [if_pos ⟨by omega, by omega, by omega⟩]
  rw [Int.toNat_natCast, List.take_length, show ((p.length : Int) + 1).toNat = p.length + 1 by omega, hL]
  simp
 rw [s1, aP, dP (by simp; omega), aP, s2, aP, dP (by simp; omega), aP]
 rfl
/-! aad are equal to themselves -/
theorem aet (f : aB) (h : SmF f) : ou f f = some true := by
 unfold ou
 simp only [jn, sC h, aP, ae9, Bool.not_true, cond_false, decide_true]
 refine Ok.eq ?_
 refine Ok.pQ (fun _ _ => True) ?_ _ trivial fun _ _ => ?_
 ·intro p n r s Z hL _ hZ
  rw [show elO f.aC (p.length : Int) = some n by rw [hL]; exact iq p n r]
  simp only [aP, decide_true, zZ, aac, Bool.not_true, cond_false]
  refine Ok.pQ (fun _ _ => True) ?_ _ trivial fun _ _ => hZ _ trivial
  intro p2 c r2 s2 Z2 hL2 _ hZ2
  rw [show elO n.Claims (p2.length : Int) = some c by rw [hL2]; exact iq p2 c r2, aP, wI]
  exact hZ2 _ trivial
 ·refine Ok.pQ (fun _ _ => True) ?_ _ trivial fun _ _ => Ok.s rfl
  intro p m r s Z hL _ hZ
  rw [show elO f.aA (p.length : Int) = some m by rw [hL]; exact iq p m r]
  simp only [aP, decide_true, zZ, aac, Bool.not_true, cond_false]
  exact hZ _ trivial
end Go.Proofs.YtpmifmdidfgpdaaGreat

/- Plain: messages are afp, by both. No condition but bT bB stand in each. -/
namespace Go.Proofs.YtpmifmdidfgpdaaGreat
set_option linter.all false
open Go
theorem Vf.drop {f : aB} (h : Vf f) {p q : List bn} {x : bn} (hL : f.aA = p ++ x :: q) : Vf (lH f p q) := by
 refine ⟨h.t, ?_, h.n, fun m hm => ?_⟩
 ·have := h.m; rw [hL] at this; show (p ++ q).length ≤ 400; simp at this ⊢; omega
 ·have hm : m ∈ p ++ q := hm
  exact h.g m (by rw [hL]; rcases List.mem_append.1 hm with hm | hm <;> simp [hm])
theorem acN {f : aB} (h : Vf f) {p q : List bn} {x : bn} (hL : f.aA = p ++ x :: q) :
  ∃ g, ef (aL.mk f) (p.length : Int) = some (aL.mk g) ∧ iV (lH f p q) x = some g ∧ Vf g ∧ g.aA = p ++ q ∧ g.aC.length = f.aC.length := by
 have hx : x ∈ f.aA := by rw [hL]; simp
 have hm := h.m
 have h1 := h.drop hL
 obtain ⟨g1, g2, g3, g4⟩ := h.g x hx
 have ap4 : f.Links.length ≤ 60 := h.t.nl
 have hl24 := h.len
 have ht : gj (lH f p q) = gj f := rfl
 have e1 : elO f.aA (p.length : Int) = some x := by rw [hL]; exact iq p x q
 have e2 : yS f.aA (p.length : Int) (w64 ((p.length : Int) + 1)) = some (p ++ q) := by
  rw [hL]; exact amL p x q (by rw [← hL]; omega)
 unfold ef iV
 simp only [e1, e2, aP]
 rw [show aB.mk f.Links f.aC (p ++ q) = lH f p q from rfl, aae h1.sm, sC h1.sm]
 have abG : jx (gj f) x.gW x.To = some (oW (gj f) x.gW x.To) := by
  rw [ahY (gj f) x.gW x.To (show f.Links.length ≤ 1000000 by omega), nE.2 h.t]; rfl
 simp only [aP, ht, abG, xu]
 cases hc : (oW (gj f) x.gW x.To).2
 ·exact ⟨_, rfl, rfl, h1, rfl, rfl⟩
 ·simp only [Bool.not_true, cond_false, adw, xA, aP]
  have hi : iW (lH f p q) x.To = iW f x.To := rfl
  rw [hi]
  rcases wu f x.To with ⟨h2, _⟩ | ⟨a, n, b, hN, h2, h3⟩
  ·omega
  ·have hn : n ∈ f.aC := by rw [hN]; simp
   have hno := h.n n hn
   have hel : elO f.aC (a.length : Int) = some n := by rw [hN]; exact iq a n b
   have hel2 : elO (lH f p q).aC (a.length : Int) = some n := hel
   have l8 : ∀ y, iL f.aC (a.length : Int) y = some (a ++ y :: b) := fun y => by rw [hN]; exact ye a n y b
   have hN1 : (lH f p q).aC = a ++ n :: b := hN
   have hvd := hno.2.2.merge g4
   simp only [h2, hel, hel2, aP, aid hno.2.2.sm, ac2, kj.2 hno.2.2, kj.2 g4, and_self, if_true, l8, iq]
   rw [aag hN1 (by show f.aC.length ≤ _; omega), aP]
   generalize hd1 : aab n.Database x.Database = d1 at hvd
   have hV2 : Vf (jV (lH f p q) a (aV.mk n.ak n.Seq n.aX n.Claims d1) b) := h1.jV hN1 rfl rfl ⟨hno.1, hno.2.1, hvd⟩
   have aun : (a ++ n :: b).length = f.aC.length := by rw [hN]
   have mb : ∀ n' : aV, (jV (lH f p q) a n' b).aC.length = f.aC.length := fun n' => by rw [← aun]; simp [jV]
   rw [show aB.mk f.Links (a ++ aV.mk n.ak n.Seq n.aX n.Claims d1 :: b) (p ++ q) = jV (lH f p q) a (aV.mk n.ak n.Seq n.aX n.Claims d1) b from rfl]
   generalize hf2 : jV (lH f p q) a (aV.mk n.ak n.Seq n.aX n.Claims d1) b = f2 at hV2
   have hN2 : f2.aC = a ++ aV.mk n.ak n.Seq n.aX n.Claims d1 :: b := by rw [← hf2]; rfl
   have auo : aV.mk n.ak n.Seq n.aX n.Claims d1 ∈ f2.aC := by rw [hN2]; simp
   have hM2 : f2.aA = p ++ q := by rw [← hf2]; rfl
   have ap7 : f2.aC.length = f.aC.length := by rw [← hf2]; exact mb _
   simp only [amD hvd.sm, z6, aP, afm hV2 auo, abo hV2 hN2, ← h3, jn, amC, zY]
   rcases qQ d1 n.ak with ⟨ha, hha, _, hfa⟩ | ⟨_, hfa⟩
   ·rw [hfa]
    have hav := hvd.ok ha hha
    have apQ : 1 ≤ ha.Seq ∧ ha.Seq ≤ 1000000 := by
     simp only [cu, inB, Bool.and_eq_true, decide_eq_true_eq] at hav; omega
    simp only [cond_true, Bool.not_true, cond_false]
    rw [ct (n := ha.Seq + 1) (by omega) (by omega)]
    -- what is done if a new vz is to be issued
    have ajF : ha.Seq < 1000000 → ∃ g, (bnd (iL (a ++ aV.mk n.ak n.Seq n.aX n.Claims d1 :: b) (a.length : Int) (aV.mk n.ak (ha.Seq + 1) n.aX n.Claims d1)) fun (l_3 : List aV) => bnd (dz (aL.mk (aB.mk f.Links l_3 (p ++ q))) (a.length : Int)) fun (dg : aL) => some dg) = some (aL.mk g) ∧ (bnd (jJ f2 (a.length : Int) (ha.Seq + 1)) fun (dB : aB) => some dB) = some g ∧ Vf g ∧ g.aA = p ++ q ∧ g.aC.length = f.aC.length := fun hlt => by
     have hV3 : Vf (jV (lH f p q) a (aV.mk n.ak (ha.Seq + 1) n.aX n.Claims d1) b) := h1.jV hN1 rfl rfl ⟨⟨by show 0 ≤ ha.Seq + 1; omega, by show ha.Seq + 1 ≤ 1000000; omega⟩, hno.2.1, hvd⟩
     have hp := ap6 hV3 (a := a) (b := b) (n := aV.mk n.ak (ha.Seq + 1) n.aX n.Claims d1) rfl (by show 1 ≤ ha.Seq + 1; omega)
     rw [ye, aP, show aB.mk f.Links (a ++ aV.mk n.ak (ha.Seq + 1) n.aX n.Claims d1 :: b) (p ++ q) = jV (lH f p q) a (aV.mk n.ak (ha.Seq + 1) n.aX n.Claims d1) b from rfl, hp, aP, ac5 hV2 hN2 (by omega), aP]
     have et3 : gj (jV (lH f p q) a (aV.mk n.ak (ha.Seq + 1) n.aX n.Claims d1) b) = gj f := xC hN1 rfl rfl
     have et2 : gj f2 = gj f := by rw [← hf2]; exact xC hN1 rfl rfl
     refine ⟨_, rfl, ?_, ?_, rfl, mb _⟩
     ·rw [← hf2, xD, xD]
      unfold acM
      rw [et3]
      rw [hf2, et2]
     ·rw [xD]
      have := h1.pub hN1 (n := aV.mk n.ak (ha.Seq + 1) n.aX n.Claims d1) rfl rfl (by show 1 ≤ ha.Seq + 1 ∧ ha.Seq + 1 ≤ 1000000; omega) hno.2.1 hvd
      unfold acM at this ⊢
      rw [et3]
      exact this
    have stay : ∃ g, (some (aL.mk f2) : Option aL) = some (aL.mk g) ∧ (some f2 : Option aB) = some g ∧ Vf g ∧ g.aA = p ++ q ∧ g.aC.length = f.aC.length := ⟨f2, rfl, rfl, hV2, hM2, ap7⟩
    have abH : ∃ g, (bif decide (ha.Seq < 1000000) then (bnd (iL (a ++ aV.mk n.ak n.Seq n.aX n.Claims d1 :: b) (a.length : Int) (aV.mk n.ak (ha.Seq + 1) n.aX n.Claims d1)) fun (l_3 : List aV) => bnd (dz (aL.mk (aB.mk f.Links l_3 (p ++ q))) (a.length : Int)) fun (dg : aL) => some dg) else some (aL.mk f2)) = some (aL.mk g) ∧ (bif decide ((1000000:Int) < ha.Seq + 1) then some f2 else (bnd (jJ f2 (a.length : Int) (ha.Seq + 1)) fun (dB : aB) => some dB)) = some g ∧ Vf g ∧ g.aA = p ++ q ∧ g.aC.length = f.aC.length := by
     by_cases hlt : ha.Seq < 1000000
     ·have e : ¬ 1000000 < ha.Seq + 1 := by omega
      simp only [hlt, e, decide_true, decide_false, cond_true, cond_false]
      exact ajF hlt
     ·have e : 1000000 < ha.Seq + 1 := by omega
      simp only [hlt, e, decide_true, decide_false, cond_true, cond_false]
      exact stay
    by_cases hs0 : n.Seq = 0
    ·have e : ¬ 0 < n.Seq := by omega
     simp only [hs0, Int.lt_irrefl, decide_true, decide_false, cond_true, cond_false, Bool.not_false]
     rw [hs0] at abH
     exact abH
    ·have e : 0 < n.Seq := by omega
     simp only [hs0, e, decide_true, decide_false, cond_true, cond_false]
     generalize zz f2 (aV.mk n.ak n.Seq n.aX n.Claims d1) n.Seq = ow
     cases ow.2
     ·exact abH
     ·simp only [Bool.not_true, cond_false, cond_true]
      cases rP ha ow.1
      ·exact abH
      ·exact stay
   ·rw [hfa]
    exact ⟨f2, rfl, rfl, hV2, hM2, ap7⟩
end Go.Proofs.YtpmifmdidfgpdaaGreat

/- Plain: rounds, by both. No condition but bT bB stand in each. -/
namespace Go.Proofs.YtpmifmdidfgpdaaGreat
set_option linter.all false
open Go
/-! all messages are afp -/
def uo (f : aB) : aB := match f.aA with
 | [] => f
 | x :: q => (iV (lH f [] q) x).getD f
theorem wA {f : aB} (h : Vf f) {x : bn} {q : List bn} (hL : f.aA = x :: q) :
  ef (aL.mk f) 0 = some (aL.mk (uo f)) ∧ iV (lH f [] q) x = some (uo f) ∧ Vf (uo f) ∧ (uo f).aA = q := by
 obtain ⟨g, h1, h2, h3, h4, _⟩ := acN h (p := []) (q := q) (x := x) hL
 have e : uo f = g := by unfold uo; rw [hL]; simp only [h2]; rfl
 rw [e]
 exact ⟨h1, h2, h3, h4⟩
def drN : Nat → aB → aB
 | 0, f => f
 | n + 1, f => drN n (uo f)
def lI (f : aB) : aB := drN f.aA.length f
theorem yD {f : aB} (h : Vf f) {x : bn} {q : List bn} (hL : f.aA = x :: q) : lI f = lI (uo f) := by
 unfold lI
 rw [hL, (wA h hL).2.2.2]; rfl
theorem afq : ∀ (n : Nat) (f : aB), Vf f → f.aA.length = n → Vf (drN n f) ∧ (drN n f).aA = []
 | 0, f, h, hn => ⟨h, List.eq_nil_of_length_eq_zero hn⟩
 | n + 1, f, h, hn => by
  cases hL : f.aA with
  | nil => rw [hL] at hn; simp at hn
  | cons x q =>
   obtain ⟨_, _, h3, h4⟩ := wA h hL
   refine afq n (uo f) h3 ?_
   rw [h4]; rw [hL] at hn; simpa using hn
theorem abp {f : aB} (h : Vf f) : Vf (lI f) ∧ (lI f).aA = [] := afq _ f h rfl
theorem acO {f : aB} (h : Vf f) : eG (aL.mk f) = some (aL.mk (lI f)) := by
 unfold eG
 have hm := h.m
 refine ah1 (G := fun o => o = some (aL.mk (lI f))) (fun s : List aQ × List aV × List bn => Vf (aB.mk s.1 s.2.1 s.2.2) ∧ lI (aB.mk s.1 s.2.1 s.2.2) = lI f) (fun s => s.2.2.length) ⟨h, rfl⟩ (by simp only; omega) ?_
 rintro ⟨a, b, c⟩ Z ⟨hv, he⟩ hZ
 simp only at hv he hZ ⊢
 cases c with
 | nil => simp only [List.length_nil]; rw [← he]; rfl
 | cons x q =>
  have e : decide ((0:Int) < (((x :: q).length : Nat) : Int)) = true := by simp
  obtain ⟨h1, _, h3, h4⟩ := wA hv (x := x) (q := q) rfl
  rw [e, cond_true, h1, aP]
  refine hZ _ ⟨h3, ?_⟩ ?_
  ·rw [← yD hv rfl]; exact he
  ·show (uo (aB.mk a b (x :: q))).aA.length < _
   rw [h4]; simp
theorem yE {f : aB} (h : Vf f) : jK f = some (lI f) := by
 unfold jK
 have hm := h.m
 refine ah1 (G := fun o => o = some (lI f)) (fun s : List aQ × List aV × List bn => Vf (aB.mk s.1 s.2.1 s.2.2) ∧ lI (aB.mk s.1 s.2.1 s.2.2) = lI f) (fun s => s.2.2.length) ⟨h, rfl⟩ (by simp only; omega) ?_
 rintro ⟨a, b, c⟩ Z ⟨hv, he⟩ hZ
 simp only at hv he hZ ⊢
 cases c with
 | nil => simp only [List.length_nil]; rw [← he]; rfl
 | cons x q =>
  have e : decide ((0:Int) < (((x :: q).length : Nat) : Int)) = true := by simp
  have hl : (x :: q).length ≤ 400 := hv.m
  obtain ⟨_, h2, h3, h4⟩ := wA hv (x := x) (q := q) rfl
  have hw := abv (f := aB.mk a b (x :: q)) (p := []) (q := q) (x := x) rfl (by show (x :: q).length ≤ 100000; omega)
  have e1 : elO (x :: q) 0 = some x := iq [] x q
  rw [e, cond_true, e1, aP]
  rw [show ((([] : List bn).length : Nat) : Int) = 0 from rfl] at hw
  rw [hw, aP, h2, aP]
  refine hZ _ ⟨h3, ?_⟩ ?_
  ·rw [← yD hv rfl]; exact he
  ·show (uo (aB.mk a b (x :: q))).aA.length < _
   rw [h4]; simp
/-! how many messages are sent in all -/
theorem acP (key : aQ → Int) : ∀ (l : List Int) (L : List aQ), l.Nodup → (l.map fun x => (L.filter fun k => decide (key k = x)).length).sum ≤ L.length
 | [], L, _ => by simp
 | x :: xs, L, h => by
  rw [List.nodup_cons] at h
  have ih := acP key xs (L.filter fun k => !decide (key k = x)) h.2
  have e : (xs.map fun y => (L.filter fun k => decide (key k = y)).length) = xs.map fun y => ((L.filter fun k => !decide (key k = x)).filter fun k => decide (key k = y)).length := by
   refine List.map_congr_left fun y hy => ?_
   rw [List.filter_filter]
   congr 1
   refine List.filter_congr fun k _ => ?_
   by_cases hk : key k = y
   ·have : y ≠ x := fun e => h.1 (e ▸ hy)
    simp [hk, this]
   ·simp [hk]
  have e2 : (L.filter fun k => decide (key k = x)).length + (L.filter fun k => !decide (key k = x)).length = L.length := by
   clear ih e
   induction L with
   | nil => rfl
   | cons k L ih => by_cases hk : key k = x <;> simp [hk] <;> omega
  rw [List.map_cons, List.sum_cons, e]
  omega
theorem aik {t : aD} (hv : Vt t) (r : Int) : (gz t r).length ≤ (t.Links.filter fun k => decide (k.A = r)).length + (t.Links.filter fun k => decide (k.B = r)).length := by
 have h2 : (gz t r).Nodup := (ue hv r).imp fun h => by omega
 have := abd (a := gz t r) (b := ((t.Links.filter fun k => decide (k.A = r)).map (·.B)) ++ (t.Links.filter fun k => decide (k.B = r)).map (·.A)) h2 fun x hx => by
  have ha := (lG hv).1 hx
  rw [nJ] at ha
  obtain ⟨l, hl, h | h⟩ := ha
  ·refine List.mem_append.2 (.inl (List.mem_map.2 ⟨l, List.mem_filter.2 ⟨hl, by simpa using h.1⟩, h.2⟩))
  ·refine List.mem_append.2 (.inr (List.mem_map.2 ⟨l, List.mem_filter.2 ⟨hl, by simpa using h.1⟩, h.2⟩))
 simpa using this
theorem sum_add {α : Type} (f g h : α → Nat) : ∀ l : List α, (∀ x ∈ l, f x ≤ g x + h x) → (l.map f).sum ≤ (l.map g).sum + (l.map h).sum
 | [], _ => by simp
 | x :: l, hl => by
  have := sum_add f g h l fun y hy => hl y (by simp [hy])
  have := hl x (by simp)
  simp only [List.map_cons, List.sum_cons]; omega
theorem ail {t : aD} (hv : Vt t) {l : List Int} (hl : l.Nodup) : (l.map fun r => (gz t r).length).sum ≤ 120 := by
 have h1 := sum_add (fun r => (gz t r).length) (fun r => (t.Links.filter fun k => decide (k.A = r)).length) (fun r => (t.Links.filter fun k => decide (k.B = r)).length) l fun r _ => aik hv r
 have h2 := acP (·.A) l t.Links hl
 have h3 := acP (·.B) l t.Links hl
 have h4 := hv.nl
 omega
/-- what the nodes of a part send -/
def jW (f : aB) (p : List aV) : List bn := p.flatMap (pG f)
theorem xE {f : aB} (h : Vf f) {p q : List aV} (hL : f.aC = p ++ q) : (jW f p).length ≤ 120 := by
 have hn : (p.map (·.ak)).Nodup := by
  have := h.asc
  rw [hL] at this
  have := (List.pairwise_append.1 this).1
  exact List.pairwise_map.2 (this.imp fun h => by omega)
 have := ail h.t hn
 rw [List.map_map] at this
 have e : (jW f p).length = (p.map fun n => (pG f n).length).sum := by
  unfold jW
  rw [List.length_flatMap]
 rw [e]
 refine Nat.le_trans (Nat.le_of_eq ?_) this
 congr 1
 refine List.map_congr_left fun n _ => ?_
 simp [pG]
theorem acQ {f : aB} {r : Int} (h : r ∈ ids (gj f)) : 0 ≤ iW f r := by
 rcases wu f r with ⟨_, h2⟩ | ⟨a, n, b, _, h2, _⟩
 ·exfalso
  unfold ids gj at h
  simp only [List.map_map] at h
  obtain ⟨n, hn, e⟩ := List.mem_map.1 h
  exact h2 n hn e
 ·omega
theorem afr {f : aB} (h : Vf f) {n : aV} (hn : n ∈ f.aC) {m : bn} (hm : m ∈ pG f n) : 0 ≤ iW f m.gW ∧ 0 ≤ iW f m.To ∧ m.gW ≠ m.To ∧ Vd m.Database := by
 obtain ⟨x, hx, rfl⟩ := List.mem_map.1 hm
 have ha := (lG h.t).1 hx
 exact ⟨acQ (qb hn), acQ (x6 h.t ha), acu h.t ha, (h.n n hn).2.2⟩
theorem aah {f : aB} (h : Vf f) {p q : List aV} (hL : f.aC = p ++ q) : Vf (aB.mk f.Links f.aC (jW f p)) := by
 have hl := xE h hL
 refine ⟨h.t, by show (jW f p).length ≤ 400; omega, h.n, fun m hm => ?_⟩
 have hm : m ∈ jW f p := hm
 obtain ⟨n, hn, hm⟩ := List.mem_flatMap.1 hm
 exact afr h (by rw [hL]; simp [hn]) hm
theorem aim {f : aB} (hf : Vf f) {a b : List aV} {n : aV} (hL : f.aC = a ++ n :: b) (hl : f.aA.length + (pG f n).length ≤ 400) : mD f n.ak = some (aB.mk f.Links f.aC (f.aA ++ pG f n), 0) := by
 have hn : n ∈ f.aC := by rw [hL]; simp
 have e1 : elO f.aC (a.length : Int) = some n := by rw [hL]; exact iq a n b
 have e3 : decide ((a.length : Int) < 0) = false := by simp
 have hln : (gz (gj f) n.ak).length = (pG f n).length := by simp [pG]
 have h23 := wq hf.t (qb hn)
 unfold mD
 rw [yC hf.sm, afl.2 hf]
 simp only [xA, hf.idx hL, e1, e3, aP, Bool.not_true, cond_false, sC hf.sm, acv hf.t]
 have e4 : decide ((400:Int) < w64 ((f.aA.length : Int) + ((gz (gj f) n.ak).length : Int))) = false := by
  rw [ct (by omega) (by omega)]; simp; omega
 rw [e4, cond_false, dP (by simp; omega), aP, List.nil_append, sB (fun x : Int => bn.mk n.ak x n.Database) _ 0 f.aA (by omega)]
 rfl
theorem aeu {f : aB} (h : Vf f) (hM : f.aA = []) : fh (aL.mk f) = some (aL.mk (aB.mk f.Links f.aC (jW f f.aC))) := by
 unfold fh
 refine auf (G := fun o => o = some (aL.mk (aB.mk f.Links f.aC (jW f f.aC)))) (fun p (s : List aQ × List aV × List bn) => s = (f.Links, f.aC, jW f p)) ?_ _ (by rw [hM]; rfl) (fun s hs => by rw [hs])
 rintro p n q s Z hL rfl hZ
 have hl := xE h (p := p) (q := n :: q) hL
 simp only
 rw [amK h hL (jW f p) (by omega), aP]
 exact hZ _ (by simp [jW])
theorem ac6 {f : aB} (h : Vf f) (hM : f.aA = []) {K : List aQ × List aV × List bn → Option (aB × Int)} :
  whl (fun (Z1 : (Int × (List aQ) × (List aV) × (List bn)) → Option _) (sg : Int × (List aQ) × (List aV) × (List bn)) => match sg with | (i_1, m_1, m_2, m_3) => bif decide (i_1 < (m_2.length:Int)) then bnd (elO m_2 i_1) fun (e_1 : aV) => bnd (mD (aB.mk m_1 m_2 m_3) e_1.ak) fun (aK : aB × Int) => Z1 (w64 (i_1 + (1:Int)), aK.1.Links, aK.1.aC, aK.1.aA) else K (m_1, m_2, m_3)) ((0:Int), f.Links, f.aC, f.aA) = K (f.Links, f.aC, jW f f.aC) := by
 have h24 := h.len
 refine ah1 (G := fun o => o = K (f.Links, f.aC, jW f f.aC)) (fun s : Int × List aQ × List aV × List bn => ∃ p q, f.aC = p ++ q ∧ s = ((p.length : Int), f.Links, f.aC, jW f p)) (fun s => ((f.aC.length : Int) - s.1).toNat) ⟨[], f.aC, rfl, by rw [hM]; rfl⟩ (by simp only; omega) ?_
 rintro s Z ⟨p, q, hL, rfl⟩ hZ
 simp only at hZ ⊢
 cases q with
 | nil =>
  have e : p = f.aC := by rw [hL]; simp
  rw [e, show decide ((f.aC.length : Int) < (f.aC.length : Int)) = false by simp, cond_false]
 | cons n q =>
  have hlt : p.length + 1 ≤ f.aC.length := by rw [hL]; simp
  have e1 : elO f.aC (p.length : Int) = some n := by rw [hL]; exact iq p n q
  have hv := aah h hL
  have hl2 := xE h (p := p ++ [n]) (q := q) (by rw [hL]; simp)
  have el : (jW f (p ++ [n])).length = (jW f p).length + (pG f n).length := by simp [jW]
  have hs := aim hv (a := p) (n := n) (b := q) hL (by show (jW f p).length + (pG f n).length ≤ 400; omega)
  rw [show decide ((p.length : Int) < (f.aC.length : Int)) = true by simp; omega, cond_true, e1, aP, hs, aP, ct (by omega) (by omega)]
  refine hZ _ ⟨p ++ [n], q, by rw [hL]; simp, ?_⟩ ?_
  ·simp [jW, pG, gj]
  ·simp only; omega
theorem aev {f : aB} (h : SmF f) : ∃ p, iU f = some p ∧ nB f = some p ∧ SmF p.1 := by
 unfold iU nB
 rw [yC h, aih h]
 cases hv : um f
 ·exact ⟨_, rfl, rfl, aum⟩
 ·have hf := afl.1 hv
  obtain ⟨h1, h2⟩ := abp hf
  have h3 := aah h1 (p := (lI f).aC) (q := []) (by simp)
  obtain ⟨h4, _⟩ := abp h3
  simp only [aP, cond_true, decide_true, Bool.not_true, cond_false, aij hf, acO hf, aeu h1 h2, acO h3, yE hf]
  refine ⟨_, rfl, ?_, h4.sm⟩
  refine (ac6 h1 h2 (K := fun s => bnd (jK (aB.mk s.1 s.2.1 s.2.2)) fun (bh : aB) => some (bh, (0:Int)))).trans ?_
  simp only [yE h3, aP]
end Go.Proofs.YtpmifmdidfgpdaaGreat
