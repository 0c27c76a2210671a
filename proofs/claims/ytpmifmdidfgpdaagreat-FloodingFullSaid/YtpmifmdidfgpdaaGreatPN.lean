/- Several texts in one. No condition but those that stand in each. -/
import Derived.Test.YtpmifmdidfgpdaaGreatPM
import Derived.Test.YtpmifmdidfgpdaaGreatDA
import GoSem.Extern.BytealgCompare
import Derived.Lib.Strings
import Derived.Test.YtpmifmdidfgpdaaGreatDL
/- Plain: vQ and abH: valid, the check, equal, found; what the ap0 amO give. No condition. -/
namespace Go.Proofs.YtpmifmdidfgpdaaGreat
set_option linter.all false
open Go
/-- a loop bB looks at each element and at the one ahead of it -/
theorem wK {α σ β : Type} {B : Int → α → (σ → Option β) → σ → Option β} {K : σ → Option β} {L : List α} (g : α → Bool) (p : α → α → Bool) (a : Option β) (h0 : ∀ x Z s, B ((0 : Nat) : Int) x Z s = bif g x then Z s else a)
  (hB : ∀ (j : Nat) x y r q s Z, L = q ++ y :: x :: r → j = q.length + 1 → B (j : Int) x Z s = bif g x && p y x then Z s else a) (s : σ) : bO L 0 B K s = bif L.all g && fA p L then K s else a := by
 have key : ∀ (r q : List α) (y : α) (s : σ), L = q ++ y :: r → bO r (q.length + 1) B K s = bif r.all g && fA p (y :: r) then K s else a := by
  intro r
  induction r with
  | nil => intro q y s _; rfl
  | cons x r ih =>
   intro q y s h
   simp only [bO]
   rw [hB (q.length + 1) x y r q s _ h rfl]
   have := ih (q ++ [y]) x s (by simpa using h)
   simp only [List.length_append, List.length_cons, List.length_nil] at this
   rw [this]
   simp only [fA, List.all_cons]
   cases g x <;> cases p y x <;> simp
 cases L with
 | nil => rfl
 | cons y r =>
  simp only [bO]
  rw [h0]
  have := key r [] y s rfl
  simp only [List.length_nil] at this
  rw [this, List.all_cons]
  cases g y <;> simp
/-- a loop along two lists -/
theorem uA {α γ β : Type} {B : Int → α → (Unit → Option β) → Unit → Option β} {K : Unit → Option β} (e : α → γ → Bool) (a : Option β) {m : List γ} (hB : ∀ j x Z s, B j x Z s = bnd (elO m j) fun y => bif !(e x y) then a else Z s) :
  ∀ (l : List α), l.length = m.length → bO l 0 B K () = bif (l.zip m).all (fun p => e p.1 p.2) then K () else a := by
 have key : ∀ (l : List α) (q r : List γ), m = q ++ r → l.length = r.length → bO l q.length B K () = bif (l.zip r).all (fun p => e p.1 p.2) then K () else a := by
  intro l
  induction l with
  | nil => intro q r _ h; rfl
  | cons x l ih =>
   intro q r hm hl
   cases r with
   | nil => simp at hl
   | cons y r =>
    simp only [bO, hB, hm, iS, aP]
    have := ih (q ++ [y]) r (by simpa using hm) (by simpa using hl)
    simp only [List.length_append, List.length_cons, List.length_nil] at this
    rw [this, List.zip_cons_cons, List.all_cons]
    cases e x y <;> rfl
 intro l h
 exact key l [] m rfl h
def inB (n lo hi : Int) : Bool := decide (lo ≤ n) && decide (n ≤ hi)
def kU (a : ak) (x : bu) : Bool := inB x.bw 1 99 && !decide (x.bw = a.aq) && inB x.lY 1 1000 && inB x.bY 0 1000
def ql (n : Int) : Bool := decide (n = 8) || (decide (n = 16) || (decide (n = 32) || decide (n = 64)))
def ko (c : bz) : Bool := inB c.cc 0 7 && inB c.ID 1 256 && ql c.Length
def uB (l : List bu) : Bool := fA (fun a b => decide (a.bw < b.bw)) l
def rY (l : List bz) : Bool := fA (fun a b => decide (a.cc < b.cc)) l
def cu (a : ak) : Bool := (inB a.aq 1 99 && inB a.Seq 1 1000000 && decide ((a.Links.length : Int) ≤ 23)) && (a.Links.all (kU a) && uB a.Links) && (decide ((a.Claims.length : Int) ≤ 8) && (a.Claims.all ko && rY a.Claims))
theorem vR {x y : Int} : decide (x ≤ y) = !decide (y < x) := by
 by_cases h : y < x
 ·simp [h]
 ·simp [h]; omega
theorem abj (n lo hi : Int) : fD n lo hi = some (inB n lo hi) := rfl
theorem ajS (n : Int) : kS n = some (ql n) := rfl
theorem inE (n lo hi : Int) : iq n lo hi = some (inB n lo hi) := rfl
theorem ajT (n : Int) : iA n = some (ql n) := by
 unfold iA ql
 cases decide (n = 8) <;> cases decide (n = 16) <;> cases decide (n = 32) <;> cases decide (n = 64) <;> rfl
theorem xY (l : List bz) : gI l = some (decide ((l.length : Int) ≤ 8) && (l.all ko && rY l)) := by
 unfold gI
 by_cases h : (8 : Int) < l.length
 ·have h' : ¬ (l.length : Int) ≤ 8 := by omega
  simp [h, h']
 ·have h' : (l.length : Int) ≤ 8 := by omega
  simp only [h, decide_false, cond_false, h', decide_true, Bool.true_and]
  refine (wK ko (fun a b => decide (a.cc < b.cc)) (some false) ?_ ?_ _).trans ?_
  ·intro x Z s
   simp only [jn, abj, ajS, aP, ko]
   cases inB x.cc 0 7 <;> cases inB x.ID 1 256 <;> cases ql x.Length <;> rfl
  ·intro j x y r q s Z hL hj
   have : decide ((0 : Int) < (j : Int)) = true := by simp; omega
   simp only [jn, abj, ajS, aP, ko, mb hL hj (by omega), vR, this]
   cases inB x.cc 0 7 <;> cases inB x.ID 1 256 <;> cases ql x.Length <;> cases decide (y.cc < x.cc) <;> rfl
  ·unfold rY; cases l.all ko && fA _ l <;> rfl
theorem pM (a : ak) : gp a = some (cu a) := by
 unfold gp cu
 simp only [jn, abj, aP]
 by_cases h : (a.Links.length : Int) ≤ 23
 ·have h' : ¬ (23 : Int) < a.Links.length := by omega
  simp only [h, h', decide_true, decide_false, Bool.and_true]
  cases inB a.aq 1 99 <;> cases inB a.Seq 1 1000000 <;> simp only [Bool.not_true, Bool.not_false, cond_true, cond_false, Bool.false_and, Bool.true_and, Bool.and_self]
  refine (wK (kU a) (fun a b => decide (a.bw < b.bw)) (some false) ?_ ?_ _).trans ?_
  ·intro x Z s
   simp only [aP, kU]
   cases inB x.bw 1 99 <;> cases decide (x.bw = a.aq) <;> cases inB x.lY 1 1000 <;> cases inB x.bY 0 1000 <;> rfl
  ·intro j x y r q s Z hL hj
   have : decide ((0 : Int) < (j : Int)) = true := by simp; omega
   simp only [aP, kU, mb hL hj (by omega), vR, this]
   cases inB x.bw 1 99 <;> cases decide (x.bw = a.aq) <;> cases inB x.lY 1 1000 <;> cases inB x.bY 0 1000 <;> cases decide (y.bw < x.bw) <;> rfl
  ·simp only [xY, aP]
   unfold uB
   cases a.Links.all (kU a) && fA _ a.Links <;> rfl
 ·have h' : (23 : Int) < a.Links.length := by omega
  simp only [h, h', decide_true, decide_false, Bool.and_false, Bool.false_and]
  cases inB a.aq 1 99 <;> cases inB a.Seq 1 1000000 <;> rfl
theorem rZ (a : ak) : gx a = some (cu a) := by
 unfold gx cu
 simp only [jn, inE, aP]
 by_cases h : (a.Links.length : Int) ≤ 23
 ·have h' : ¬ (23 : Int) < a.Links.length := by omega
  by_cases hc : (a.Claims.length : Int) ≤ 8
  ·have hc' : ¬ (8 : Int) < a.Claims.length := by omega
   simp only [h, h', hc, hc', decide_true, decide_false, Bool.and_true, Bool.true_and]
   cases inB a.aq 1 99 <;> cases inB a.Seq 1 1000000 <;> simp only [Bool.not_true, Bool.not_false, cond_true, cond_false, Bool.false_and, Bool.true_and, Bool.and_self]
   refine (wK (kU a) (fun a b => decide (a.bw < b.bw)) (some false) ?_ ?_ _).trans ?_
   ·intro x Z s
    simp only [aP, kU]
    cases inB x.bw 1 99 <;> cases decide (x.bw = a.aq) <;> cases inB x.lY 1 1000 <;> cases inB x.bY 0 1000 <;> rfl
   ·intro j x y r q s Z hL hj
    have : decide ((0 : Int) < (j : Int)) = true := by simp; omega
    simp only [aP, kU, mb hL hj (by omega), vR, this]
    cases inB x.bw 1 99 <;> cases decide (x.bw = a.aq) <;> cases inB x.lY 1 1000 <;> cases inB x.bY 0 1000 <;> cases decide (y.bw < x.bw) <;> rfl
   ·refine Eq.trans (b := bif a.Links.all (kU a) && uB a.Links then (bif a.Claims.all ko && rY a.Claims then some true else some false) else some false) ?_ ?_
    ·unfold uB
     congr 1
     refine (wK ko (fun a b => decide (a.cc < b.cc)) (some false) ?_ ?_ _).trans ?_
     ·intro x Z s
      simp only [ajT, aP, ko]
      cases inB x.cc 0 7 <;> cases inB x.ID 1 256 <;> cases ql x.Length <;> rfl
     ·intro j x y r q s Z hL hj
      have : decide ((0 : Int) < (j : Int)) = true := by simp; omega
      simp only [ajT, aP, ko, mb hL hj (by omega), vR, this]
      cases inB x.cc 0 7 <;> cases inB x.ID 1 256 <;> cases ql x.Length <;> cases decide (y.cc < x.cc) <;> rfl
     ·rfl
    ·cases a.Links.all (kU a) && uB a.Links <;> cases a.Claims.all ko && rY a.Claims <;> rfl
  ·have hc' : (8 : Int) < a.Claims.length := by omega
   simp only [h, h', hc, hc', decide_true, decide_false, Bool.and_false, Bool.false_and]
   cases inB a.aq 1 99 <;> cases inB a.Seq 1 1000000 <;> rfl
 ·have h' : (23 : Int) < a.Links.length := by omega
  simp only [h, h', decide_true, decide_false, Bool.and_false, Bool.false_and]
  cases inB a.aq 1 99 <;> cases inB a.Seq 1 1000000 <;> rfl
/-! the check -/
def ac1 (d : aD) : Bool := fA (fun a b => decide (a.aq < b.aq)) d.az
def dbC (d : aD) : Int := bif decide ((99 : Int) < (d.az.length : Int)) then 3 else bif d.az.all cu then (bif ac1 d then 0 else 25) else 1
theorem su (d : aD) : gL d = some (dbC d) := by
 unfold gL dbC
 by_cases h : (99 : Int) < d.az.length
 ·simp [h]
 simp only [h, decide_false, cond_false]
 refine (rX (fun a => !cu a) (some 1) ?_ _ _ _).trans ?_
 ·intro j x Z s; simp only [pM, aP]
 rw [← List.not_all_eq_any_not]
 cases d.az.all cu
 ·rfl
 simp only [Bool.not_true, cond_false, cond_true]
 refine (xS (fun a b : ak => decide (a.aq < b.aq)) (some 25) ?_ _).trans ?_
 ·intro j x y r q s Z hL hj
  simp only [mb hL hj (by omega), aP, vR]
  cases decide (y.aq < x.aq) <;> rfl
 ·unfold ac1; cases fA _ d.az <;> rfl
theorem cfA (l : List ak) (f : ak → Option Bool) (p : ak → Bool) (hf : ∀ x, f x = some (p x)) : cW l f = some (l.any p) := by
 unfold cW dR
 obtain ⟨r, h1, h2⟩ := wF (B := fun (j1 : Int) (e1 : ak) (Z1 : Unit → Option Int) (sg : Unit) => match sg with | () => bnd (f e1) fun (af : Bool) => bif af then some (j1 : Int) else Z1 ()) (K := fun (sg : Unit) => match sg with | () => some (-1:Int)) p (fun j x Z s => by simp only [hf, aP]) (fun _ => rfl) l 0 ()
 simp only [h1, aP, h2]
theorem wL (d : aD) : fe d = some (dbC d) := by
 unfold fe dbC
 by_cases h : (99 : Int) < d.az.length
 ·simp [h]
 simp only [h, decide_false, cond_false]
 rw [cfA d.az _ (fun a => !cu a) (fun x => by simp only [lR, rZ, aP]), aP]
 rw [← List.not_all_eq_any_not]
 cases d.az.all cu
 ·rfl
 simp only [Bool.not_true, cond_false, cond_true]
 refine (xT (fun a b : ak => decide (a.aq < b.aq)) (some 25) ?_ ?_ _).trans ?_
 ·intros; rfl
 ·intro j x y r q s Z hL hj
  have : decide ((0 : Int) < (j : Int)) = true := by simp; omega
  simp only [jn, mb hL hj (by omega), aP, vR, this]
  cases decide (y.aq < x.aq) <;> rfl
 ·unfold ac1; cases fA _ d.az <;> rfl
/-! equal -/
def abk (l m : List bu) : Bool := decide ((l.length : Int) = m.length) && (l.zip m).all (fun p => jN p.1 p.2)
def abl (l m : List bz) : Bool := decide ((l.length : Int) = m.length) && (l.zip m).all (fun p => gN p.1 p.2)
def sv (a b : ak) : Bool := decide (a.aq = b.aq) && (decide (a.Seq = b.Seq) && ((a.aW == b.aW) && (abk a.Links b.Links && abl a.Claims b.Claims)))
theorem ap6 (l m : List bu) : gh l m = some (abk l m) := by
 unfold gh abk
 by_cases h : (l.length : Int) = m.length
 ·simp only [h, decide_true, Bool.not_true, cond_false, Bool.true_and]
  rw [uA jN (some false) (fun j x Z s => rfl) l (by omega)]
  cases (l.zip m).all _ <;> rfl
 ·simp [h]
theorem ap7 (l m : List bz) : gi l m = some (abl l m) := by
 unfold gi abl
 by_cases h : (l.length : Int) = m.length
 ·simp only [h, decide_true, Bool.not_true, cond_false, Bool.true_and]
  rw [uA gN (some false) (fun j x Z s => rfl) l (by omega)]
  cases (l.zip m).all _ <;> rfl
 ·simp [h]
theorem amV (a b : ak) : jP a b = some (sv a b) := by
 unfold jP sv
 simp only [ap6, ap7, aP]
 cases decide (a.aq = b.aq) <;> cases decide (a.Seq = b.Seq) <;> cases (a.aW == b.aW) <;> cases abk a.Links b.Links <;> cases abl a.Claims b.Claims <;> rfl
theorem aay (a b : ak) : mH a b = some (sv a b) := by
 unfold mH sv abk abl
 by_cases hl : (a.Links.length : Int) = b.Links.length
 ·by_cases hc : (a.Claims.length : Int) = b.Claims.length
  ·simp only [hl, hc, decide_true, Bool.not_true, Bool.or_false, Bool.true_and]
   rw [uA jN (some false) (fun j x Z s => rfl) a.Links (by omega), uA gN (some false) (fun j x Z s => rfl) a.Claims (by omega)]
   cases decide (a.aq = b.aq) <;> cases decide (a.Seq = b.Seq) <;> cases (a.aW == b.aW) <;> cases (a.Links.zip b.Links).all _ <;> cases (a.Claims.zip b.Claims).all _ <;> rfl
  ·simp [hc]
 ·simp [hl]
def ab5 (a b : aD) : Bool := decide ((a.az.length : Int) = b.az.length) && (a.az.zip b.az).all (fun p => sv p.1 p.2)
theorem aaz (a b : aD) : mI a b = some (ab5 a b) := by
 unfold mI ab5
 by_cases h : (a.az.length : Int) = b.az.length
 ·simp only [h, decide_true, Bool.not_true, cond_false, Bool.true_and]
  rw [uA (m := b.az) sv (some false) (fun j x Z s => by simp only [aay, aP]) a.az (by omega)]
  cases (a.az.zip b.az).all _ <;> rfl
 ·simp [h]
theorem abW (a : bu) : jN a a = true := by simp [jN]
theorem w9 (a : bz) : gN a a = true := by simp [gN]
theorem wM {α : Type} (e : α → α → Bool) (h : ∀ x, e x x = true) : ∀ l : List α, (l.zip l).all (fun p => e p.1 p.2) = true
 | [] => rfl
 | x :: r => by simp only [List.zip_cons_cons, List.all_cons, h, wM e h r, Bool.and_self]
theorem aeS (a : ak) : sv a a = true := by
 unfold sv abk abl
 rw [wM jN abW, wM gN w9]; simp
/-! found -/
def noA : ak := ak.mk 0 0 false [] []
def ig (d : aD) (r : Int) : ak × Bool := match d.az.find? (fun a => decide (a.aq = r)) with | some a => (a, true) | none => (noA, false)
theorem aaA (d : aD) (r : Int) : mJ d r = some (ig d r) := by
 unfold mJ
 rw [sS (fun a : ak => decide (a.aq = r)) (fun a => some (a, true)) (fun j x Z s => rfl)]
 unfold ig
 cases d.az.find? _ <;> rfl
/-- lists of a size bB can be copied -/
def SmA (a : ak) : Prop := a.Links.length ≤ 100000 ∧ a.Claims.length ≤ 100000
def SmD (d : aD) : Prop := d.az.length ≤ 100000 ∧ ∀ a ∈ d.az, SmA a
theorem afH {l : List bu} (h : l.length ≤ 100000) : dz l = some l := by
 unfold dz dH
 rw [dJ (by simp; omega)]; rfl
theorem ac2 {l : List bz} (h : l.length ≤ 100000) : cN l = some l := by
 unfold cN dG
 rw [dJ (by simp; omega)]; rfl
theorem uY {a : ak} (h : SmA a) : eN a = some a := by
 unfold eN
 rw [afH h.1, aP, ac2 h.2, aP]
theorem amW {d : aD} (h : SmD d) (r : Int) : jI d r = some (ig d r) := by
 unfold jI
 rw [sS (fun a : ak => decide (a.aq = r)) (fun a => bnd (eN a) fun (af : ak) => some (af, true)) (fun j x Z s => rfl)]
 unfold ig
 cases hf : d.az.find? (fun a => decide (a.aq = r)) with
 | none => rfl
 | some a => simp only [uY (h.2 a (List.mem_of_find?_eq_some hf)), aP]
end Go.Proofs.YtpmifmdidfgpdaaGreat

/- Plain: the abH bB the tape aiJ: aeh sizes, and bB yy ait acd are valid. No condition. -/
namespace Go.Proofs.YtpmifmdidfgpdaaGreat
set_option linter.all false
open Go
theorem abI {t : aQ} (h : cE t) : Ok (iZ t) (fun p => ql p.1 = true ∧ cE p.2) := by
 unfold iZ
 refine Ok.bnd (kI h (by decide) (by decide)) fun p hp => Ok.s ⟨?_, hp.2⟩
 have := hp.1
 simp only [List.mem_cons, List.not_mem_nil, or_false] at this
 show ql p.1 = true
 simp only [ql, Bool.or_eq_true, decide_eq_true_eq]; omega
theorem yE {α : Type} {p : α → α → Bool} : ∀ {l : List α} {x : α}, fA p l = true → (∀ y ∈ l, p y x = true) → fA p (l ++ [x]) = true
 | [], _, _, _ => rfl
 | [a], x, _, h => by simp [fA, h a (by simp)]
 | a :: b :: r, x, h, hx => by
  simp only [fA, Bool.and_eq_true] at h
  simp only [List.cons_append, fA, Bool.and_eq_true]
  exact ⟨h.1, yE h.2 fun y hy => hx y (by simp [hy])⟩
theorem abm {α : Type} {p : α → Bool} {l : List α} {x : α} (h : l.all p = true) (hx : p x = true) : (l ++ [x]).all p = true := by simp [h, hx] 
/-- an vS of the tape -/
theorem abJ {t : aQ} {r n : Int} (h : cE t) (hn : n ≤ 9223372036854775807) : Ok (jb t r n) (fun p => SmA p.1 ∧ (n = 0 → 1 ≤ r → r ≤ 99 → cu p.1 = true ∧ p.1.aq = r ∧ ∀ l ∈ p.1.Links, l.bw ≤ 6) ∧ cE p.2) := by
 unfold jb
 refine Ok.bnd (kI h (by decide) (by decide)) fun p1 h1 => ?_
 have ap8 : inB p1.1 1 1000000 = true := by
  have := h1.1
  simp only [List.mem_cons, List.not_mem_nil, or_false] at this
  simp only [inB, Bool.and_eq_true, decide_eq_true_eq]; omega
 refine Ok.bnd (fS h1.2 (by omega)) fun p2 h2 => ?_
 refine Ok.fW (fun j (s : List bu × List Int × Int) => ((s.1.length : Int) ≤ j - 1 ∧ (1 ≤ r → s.1.all (kU (ak.mk r 0 false [] [])) = true) ∧ uB s.1 = true ∧ (∀ x ∈ s.1, x.bw < j)) ∧ cE (aQ.mk s.2.1 s.2.2)) 1 7 ?_ ?_ _ _ _ rfl (by omega) (by omega) ⟨by simp [uB, fA], h2.2⟩
 ·intro j s Z hj1 hj2 hI hZ
  obtain ⟨ls, L, At⟩ := s
  obtain ⟨⟨q1, q2, q3, q4⟩, ht⟩ := hI
  simp only at q1 q2 q3 q4
  refine Ok.jn (fun s : List Int × Int × List bu => ((s.2.2.length : Int) ≤ j ∧ (1 ≤ r → s.2.2.all (kU (ak.mk r 0 false [] [])) = true) ∧ uB s.2.2 = true ∧ (∀ x ∈ s.2.2, x.bw < j + 1)) ∧ cE (aQ.mk s.1 s.2.1)) (fun s hs => hZ _ ⟨⟨by have := hs.1.1; obtain ⟨_, _, _⟩ := s; simp only at this ⊢; omega, hs.1.2.1, hs.1.2.2⟩, hs.2⟩) fun J1 hJ1 => ?_
  have stay : ∀ L At, cE (aQ.mk L At) → Ok (J1 (L, At, ls)) _ := fun L At ht => hJ1 _ ⟨⟨by show (ls.length : Int) ≤ j; omega, q2, q3, fun x hx => by have := q4 x hx; omega⟩, ht⟩
  refine Ok.jn (fun s : Bool × List Int × Int => (s.1 = true → j ≠ r) ∧ cE (aQ.mk s.2.1 s.2.2)) (fun s hs => ?_) fun J2 hJ2 => ?_
  ·obtain ⟨v, L2, At2⟩ := s
   refine Ok.cs (fun hv => ?_) fun _ => stay _ _ hs.2
   refine Ok.bnd (nF hs.2) fun p4 h4 => ?_
   refine Ok.bnd (fS h4.2 (by omega)) fun p5 h5 => ?_
   refine Ok.bnd (ia (by simp; omega)) fun l1 hl1 => ?_
   obtain ⟨hl1, hl2⟩ := hl1
   have hc := h4.1 (by omega) (by omega) (by omega)
   have hcap := h5.1
   refine hJ1 _ ⟨⟨by simp only; rw [hl2]; simp; omega, fun hr => ?_, ?_, ?_⟩, h5.2⟩
   ·simp only [hl1]
    refine abm (q2 hr) ?_
    have hne := hs.1 hv
    simp only [kU, inB, Bool.and_eq_true, decide_eq_true_eq, Bool.not_eq_true', decide_eq_false_iff_not]
    have := hcap.2.1 (by omega)
    omega
   ·simp only [hl1, uB]
    exact yE q3 fun y hy => by simpa using q4 y hy
   ·simp only [hl1]
    intro x hx
    rcases List.mem_append.1 hx with hx | hx
    ·have := q4 x hx; omega
    ·simp at hx; subst hx; show j < j + 1; omega
  ·refine Ok.cs (fun hc => ?_) fun _ => hJ2 _ ⟨by simp, ht⟩
   refine Ok.bnd (fS ht (by omega)) fun p3 h3 => hJ2 _ ⟨fun _ => by simpa using hc, h3.2⟩
 intro j s hj1 hj2 hI
 obtain ⟨ls, L, At⟩ := s
 obtain ⟨⟨q1, q2, q3, q4⟩, ht⟩ := hI
 have hj := hj2 (by omega)
 subst hj
 simp only at q1 q2 q3 q4
 refine Ok.fW (fun k (s : List bz × List Int × Int) => ((s.1.length : Int) ≤ k ∧ s.1.all ko = true ∧ rY s.1 = true ∧ (∀ x ∈ s.1, x.cc < k)) ∧ cE (aQ.mk s.2.1 s.2.2)) 0 2 ?_ ?_ _ _ _ rfl (by omega) (by omega) ⟨by simp [rY, fA], ht⟩
 ·intro k s Z hk1 hk2 hI hZ
  obtain ⟨cs, L, At⟩ := s
  obtain ⟨⟨r1, r2, r3, r4⟩, ht⟩ := hI
  simp only at r1 r2 r3 r4
  refine Ok.jn (fun s : List Int × Int × List bz => ((s.2.2.length : Int) ≤ k + 1 ∧ s.2.2.all ko = true ∧ rY s.2.2 = true ∧ (∀ x ∈ s.2.2, x.cc < k + 1)) ∧ cE (aQ.mk s.1 s.2.1)) (fun s hs => hZ _ ⟨hs.1, hs.2⟩) fun J3 hJ3 => ?_
  refine Ok.bnd (fS ht (by omega)) fun p6 h6 => ?_
  refine Ok.cs (fun _ => ?_) fun _ => hJ3 _ ⟨⟨by show (cs.length : Int) ≤ _; omega, r2, r3, fun x hx => by have := r4 x hx; omega⟩, h6.2⟩
  refine Ok.bnd (nF h6.2) fun p7 h7 => ?_
  refine Ok.bnd (abI h7.2) fun p8 h8 => ?_
  refine Ok.bnd (ia (by simp; omega)) fun l2 hl2 => ?_
  obtain ⟨hl1, hl2⟩ := hl2
  have hid := h7.1 (by omega) (by omega) (by omega)
  refine hJ3 _ ⟨⟨by simp only; rw [hl2]; simp; omega, ?_, ?_, ?_⟩, h8.2⟩
  ·simp only [hl1]
   refine abm r2 ?_
   simp only [ko, inB, h8.1, Bool.and_true, Bool.and_eq_true, decide_eq_true_eq]
   omega
  ·simp only [hl1, rY]
   exact yE r3 fun y hy => by simpa using r4 y hy
  ·simp only [hl1]
   intro x hx
   rcases List.mem_append.1 hx with hx | hx
   ·have := r4 x hx; omega
   ·simp at hx; subst hx; show k < k + 1; omega
 intro k s hk1 hk2 hI
 obtain ⟨cs, L, At⟩ := s
 obtain ⟨⟨r1, r2, r3, r4⟩, ht⟩ := hI
 have hk := hk2 (by omega)
 subst hk
 simp only at r1 r2 r3 r4
 refine Ok.jn (fun s : List Int × Int × Int × Int × List bu × List bz => (s.2.2.2.2.1.length ≤ 100000 ∧ s.2.2.2.2.2.length ≤ 100000) ∧ (n = 0 → s.2.2 = (r, p1.1, ls, cs)) ∧ cE (aQ.mk s.1 s.2.1)) (fun s hs => ?_) fun J4 hJ4 => ?_
 ·obtain ⟨a1, a2, a3, a4, a5, a6⟩ := s
  refine Ok.s ⟨hs.1, fun hn hr1 hr2 => ?_, hs.2.2⟩
  have := hs.2.1 hn
  simp only [Prod.mk.injEq] at this
  obtain ⟨rfl, rfl, rfl, rfl⟩ := this
  refine ⟨?_, rfl, fun l hl => by have := q4 l hl; omega⟩
  have g1 : a5.all (kU (ak.mk a3 p1.1 (decide ((0:Int) < p2.1)) a5 a6)) = true := q2 hr1
  simp only [inB, Bool.and_eq_true, decide_eq_true_eq] at ap8
  simp only [cu, g1, q3, r2, r3, Bool.and_true, Bool.true_and, Bool.and_eq_true, decide_eq_true_eq, inB]
  omega
 refine Ok.jn (fun s : Bool × List Int × Int => (n = 0 → s.1 = false) ∧ cE (aQ.mk s.2.1 s.2.2)) (fun s hs => ?_) fun J5 hJ5 => ?_
 ·obtain ⟨v, L2, At2⟩ := s
  have base : ∀ L At a b (l : List bu) (c : List bz), n ≠ 0 → l.length ≤ 100000 → c.length ≤ 100000 → cE (aQ.mk L At) → Ok (J4 (L, At, a, b, l, c)) _ := fun L At a b l c hn h1 h2 h3 => hJ4 _ ⟨⟨h1, h2⟩, fun h => absurd h hn, h3⟩
  refine Ok.cs (fun hv => ?_) fun _ => hJ4 _ ⟨⟨by show ls.length ≤ _; omega, by show cs.length ≤ _; omega⟩, fun _ => rfl, hs.2⟩
  have hn0 : n ≠ 0 := fun e => by have := hs.1 e; simp only at hv this; rw [hv] at this; cases this
  refine Ok.bnd (fS hs.2 (by omega)) fun p10 h10 => ?_
  refine Ok.cs (fun _ => Ok.bnd (yD h10.2) fun q hq => base _ _ _ _ _ _ hn0 (by omega) (by omega) hq) fun _ => ?_
  refine Ok.cs (fun _ => Ok.bnd (yD h10.2) fun q hq => base _ _ _ _ _ _ hn0 (by omega) (by omega) hq) fun _ => ?_
  refine Ok.cs (fun _ => ?_) fun _ => ?_
  ·refine Ok.bnd (kI h10.2 (by simp) (by simp)) fun q1' g1 => Ok.bnd (kI g1.2 (by decide) (by decide)) fun q2' g2 => Ok.bnd (kI g2.2 (by decide) (by decide)) fun q3' g3 => ?_
   exact Ok.bnd (ia (by simp; omega)) fun l hl => base _ _ _ _ _ _ hn0 (by rw [hl.2]; simp; omega) (by omega) g3.2
  refine Ok.cs (fun _ => ?_) fun _ => ?_
  ·refine Ok.bnd (kI h10.2 (by decide) (by decide)) fun q1' g1 => Ok.bnd (kI g1.2 (by decide) (by decide)) fun q2' g2 => Ok.bnd (kI g2.2 (by decide) (by decide)) fun q3' g3 => ?_
   exact Ok.bnd (ia (by simp; omega)) fun l hl => base _ _ _ _ _ _ hn0 (by omega) (by rw [hl.2]; simp; omega) g3.2
  refine Ok.cs (fun _ => ?_) fun _ => ?_
  ·refine Ok.fW (fun j (m : List bu) => (m.length : Int) ≤ ls.length + (j - 30)) 30 54 ?_ ?_ _ _ _ rfl (by omega) (by omega) (by omega)
   ·intro j m Z hj1 hj2 hI hZ
    exact Ok.bnd (ia (by simp; omega)) fun l hl => hZ _ (by rw [hl.2]; simp; omega)
   ·intro j m hj1 hj2 hI
    have := hj2 (by omega)
    exact base _ _ _ _ _ _ hn0 (by omega) (by omega) h10.2
  refine Ok.cs (fun hl0 => ?_) fun _ => base _ _ _ _ _ _ hn0 (by omega) (by omega) h10.2
  refine Ok.bnd (yD h10.2) fun q hq => ?_
  simp at hl0
  refine Ok.bnd (pJ (by omega) (by omega)) fun e he => ?_
  exact Ok.bnd (afv (by omega) (by omega)) fun l hl => base _ _ _ _ _ _ hn0 (by rw [hl.2]; omega) (by omega) hq
 ·refine Ok.cs (fun hc => ?_) fun _ => hJ5 _ ⟨fun _ => rfl, ht⟩
  have : n ≠ 0 := by simp at hc; omega
  exact Ok.bnd (vP ht hn) fun q hq => hJ5 _ ⟨fun e => absurd e this, hq⟩
theorem y4 {t : aQ} {n : Int} (h : cE t) (hn : n ≤ 9223372036854775807) : Ok (gZ t n) (fun p => (SmD p.1 ∧ p.1.az.length ≤ 7 ∧ (n = 0 → dbC p.1 = 0 ∧ (∀ a ∈ p.1.az, a.aq ≤ 6) ∧ ∀ a ∈ p.1.az, ∀ l ∈ a.Links, l.bw ≤ 6) ) ∧ cE p.2) := by
 unfold gZ
 refine Ok.fW (fun j (s : List ak × List Int × Int) => ((s.1.length : Int) ≤ j - 1 ∧ (∀ a ∈ s.1, SmA a) ∧ s.1.all cu = true ∧ fA (fun a b : ak => decide (a.aq < b.aq)) s.1 = true ∧ (∀ a ∈ s.1, a.aq < j) ∧ ∀ a ∈ s.1, ∀ l ∈ a.Links, l.bw ≤ 6) ∧ cE (aQ.mk s.2.1 s.2.2)) 1 7 ?_ ?_ _ _ _ rfl (by omega) (by omega) ⟨by simp [fA], h⟩
 ·intro j s Z hj1 hj2 hI hZ
  obtain ⟨ads, L, At⟩ := s
  obtain ⟨⟨q1, q2, q3, q4, q5, q6⟩, ht⟩ := hI
  simp only at q1 q2 q3 q4 q5 q6
  refine Ok.jn (fun s : List Int × Int × List ak => ((s.2.2.length : Int) ≤ j ∧ (∀ a ∈ s.2.2, SmA a) ∧ s.2.2.all cu = true ∧ fA (fun a b : ak => decide (a.aq < b.aq)) s.2.2 = true ∧ (∀ a ∈ s.2.2, a.aq < j + 1) ∧ ∀ a ∈ s.2.2, ∀ l ∈ a.Links, l.bw ≤ 6) ∧ cE (aQ.mk s.1 s.2.1)) (fun s hs => hZ _ ⟨⟨by have := hs.1.1; obtain ⟨_, _, _⟩ := s; simp only at this ⊢; omega, hs.1.2⟩, hs.2⟩) fun J1 hJ1 => ?_
  refine Ok.bnd (fS ht (by omega)) fun p1 h1 => ?_
  refine Ok.cs (fun _ => ?_) fun _ => hJ1 _ ⟨⟨by show (ads.length : Int) ≤ j; omega, q2, q3, q4, fun a ha => by have := q5 a ha; omega, q6⟩, h1.2⟩
  refine Ok.bnd (abJ (n := 0) h1.2 (by omega)) fun p2 h2 => ?_
  obtain ⟨g1, g2, g3⟩ := h2
  have g2 := g2 rfl (by omega) (by omega)
  refine Ok.bnd (ia (by simp; omega)) fun l hl => ?_
  obtain ⟨hl, hl2⟩ := hl
  refine hJ1 _ ⟨⟨by simp only; rw [hl2]; simp; omega, ?_, ?_, ?_, ?_, ?_⟩, g3⟩
  ·simp only [hl]; intro a ha
   rcases List.mem_append.1 ha with ha | ha
   ·exact q2 a ha
   ·simp at ha; subst ha; exact g1
  ·simp only [hl]; exact abm q3 g2.1
  ·simp only [hl]; exact yE q4 fun y hy => by have := q5 y hy; simp [g2.2.1]; omega
  ·simp only [hl]; intro a ha
   rcases List.mem_append.1 ha with ha | ha
   ·have := q5 a ha; omega
   ·simp at ha; subst ha; rw [g2.2.1]; omega
  ·simp only [hl]; intro a ha
   rcases List.mem_append.1 ha with ha | ha
   ·exact q6 a ha
   ·simp at ha; subst ha; exact g2.2.2
 intro j s hj1 hj2 hI
 obtain ⟨ads, L, At⟩ := s
 obtain ⟨⟨q1, q2, q3, q4, q5, q6⟩, ht⟩ := hI
 have hj := hj2 (by omega)
 subst hj
 simp only at q1 q2 q3 q4 q5 q6
 refine Ok.jn (fun s : List Int × Int × List ak => (s.2.2.length ≤ 7 ∧ (∀ a ∈ s.2.2, SmA a) ∧ (n = 0 → s.2.2 = ads)) ∧ cE (aQ.mk s.1 s.2.1)) (fun s hs => ?_) fun J2 hJ2 => ?_
 ·obtain ⟨a1, a2, a3⟩ := s
  obtain ⟨⟨g1, g2, g3⟩, g4⟩ := hs
  simp only at g1 g2 g3
  refine Ok.s ⟨⟨⟨by show a3.length ≤ _; omega, g2⟩, g1, fun h0 => ?_⟩, g4⟩
  have := g3 h0
  subst this
  refine ⟨?_, fun a ha => by have := q5 a ha; omega, q6⟩
  have e : ¬ (99 : Int) < a3.length := by omega
  simp only [dbC, q3, ac1, q4, e, decide_false, cond_true, cond_false]
 refine Ok.jn (fun s : Bool × List Int × Int => (n = 0 → s.1 = false) ∧ cE (aQ.mk s.2.1 s.2.2)) (fun s hs => ?_) fun J3 hJ3 => ?_
 ·obtain ⟨v, L2, At2⟩ := s
  refine Ok.cs (fun hv => ?_) fun _ => hJ2 _ ⟨⟨by show ads.length ≤ _; omega, q2, fun _ => rfl⟩, hs.2⟩
  have hn0 : n ≠ 0 := fun e => by have := hs.1 e; simp only at hv this; rw [hv] at this; cases this
  refine Ok.bnd (kI hs.2 (by decide) (by decide)) fun p4 h4 => ?_
  refine Ok.bnd (abJ h4.2 (by omega)) fun p5 h5 => ?_
  refine Ok.bnd (ia (by simp; omega)) fun l hl => ?_
  obtain ⟨hl, hl2⟩ := hl
  refine hJ2 _ ⟨⟨by simp only; rw [hl2]; simp; omega, ?_, fun e => absurd e hn0⟩, h5.2.2⟩
  simp only [hl]; intro a ha
  rcases List.mem_append.1 ha with ha | ha
  ·exact q2 a ha
  ·simp at ha; subst ha; exact h5.1
 ·refine Ok.cs (fun hc => ?_) fun _ => hJ3 _ ⟨fun _ => rfl, ht⟩
  have : n ≠ 0 := by simp at hc; omega
  exact Ok.bnd (vP ht hn) fun q hq => hJ3 _ ⟨fun e => absurd e this, hq⟩
end Go.Proofs.YtpmifmdidfgpdaaGreat

/- Plain: the View of a database, by both. No condition. -/
namespace Go.Proofs.YtpmifmdidfgpdaaGreat
set_option linter.all false
open Go
structure Vd (d : aD) : Prop where
 n : d.az.length ≤ 99
 ok : ∀ a ∈ d.az, cu a = true
 asc : d.az.Pairwise (fun a b => a.aq < b.aq)
theorem jW {d : aD} : dbC d = 0 ↔ Vd d := by
 unfold dbC ac1
 constructor
 ·intro h
  by_cases h1 : (99 : Int) < d.az.length
  ·simp [h1] at h
  cases h2 : d.az.all cu
  ·simp [h1, h2] at h
  cases h3 : fA (fun a b : ak => decide (a.aq < b.aq)) d.az
  ·simp [h1, h2, h3] at h
  refine ⟨by omega, fun a ha => List.all_eq_true.1 h2 a ha, ?_⟩
  have := oL (p := fun a b : ak => decide (a.aq < b.aq)) (fun a b c h1 h2 => by simp at h1 h2 ⊢; omega) h3
  exact this.imp (fun h => by simpa using h)
 ·intro h
  have h1 : ¬ (99 : Int) < d.az.length := by have := h.n; omega
  have h2 : d.az.all cu = true := List.all_eq_true.2 h.ok
  have h3 : fA (fun a b : ak => decide (a.aq < b.aq)) d.az = true := mU (h.asc.imp fun h => by simpa using h)
  simp [h1, h2, h3]
structure Va (a : ak) : Prop where
 r : 1 ≤ a.aq ∧ a.aq ≤ 99
 n : a.Links.length ≤ 23
 nc : a.Claims.length ≤ 8
 g : ∀ x ∈ a.Links, (1 ≤ x.bw ∧ x.bw ≤ 99) ∧ x.bw ≠ a.aq ∧ (1 ≤ x.lY ∧ x.lY ≤ 1000) ∧ 0 ≤ x.bY ∧ x.bY ≤ 1000
 asc : a.Links.Pairwise (fun x y => x.bw < y.bw)
theorem ab6 {a : ak} (h : cu a = true) : Va a := by
 simp only [cu, Bool.and_eq_true, decide_eq_true_eq, inB] at h
 obtain ⟨⟨⟨⟨h1, _⟩, h2⟩, h3, h4⟩, h5, _⟩ := h
 refine ⟨h1, by omega, by omega, fun x hx => ?_, ?_⟩
 ·have := List.all_eq_true.1 h3 x hx
  simp only [kU, inB, Bool.and_eq_true, decide_eq_true_eq, Bool.not_eq_true', decide_eq_false_iff_not] at this
  exact ⟨this.1.1.1, this.1.1.2, this.1.2, this.2⟩
 ·have := oL (p := fun a b : bu => decide (a.bw < b.bw)) (fun a b c h1 h2 => by simp at h1 h2 ⊢; omega) h4
  exact this.imp (fun h => by simpa using h)
theorem Vd.sm {d : aD} (h : Vd d) : SmD d := ⟨by have := h.n; omega, fun a ha => by have := ab6 (h.ok a ha); exact ⟨by have := this.n; omega, by have := this.nc; omega⟩⟩
theorem zU {α : Type} {f : α → Int} : ∀ {l : List α}, l.Pairwise (fun a b => f a < f b) → ∀ {a b : α}, a ∈ l → b ∈ l → f a = f b → a = b
 | [], _, _, _, h, _, _ => by simp at h
 | x :: r, hp, a, b, ha, hb, he => by
  rw [List.pairwise_cons] at hp
  rcases List.mem_cons.1 ha with ea | ha'
  ·rcases List.mem_cons.1 hb with eb | hb'
   ·rw [ea, eb]
   ·have := hp.1 b hb'; rw [ea] at he; omega
  ·rcases List.mem_cons.1 hb with eb | hb'
   ·have := hp.1 a ha'; rw [eb] at he; omega
   ·exact zU hp.2 ha' hb' he
theorem Vd.uniq {d : aD} (h : Vd d) {a b : ak} (ha : a ∈ d.az) (hb : b ∈ d.az) (he : a.aq = b.aq) : a = b := zU h.asc ha hb he
theorem Va.uniq {a : ak} (h : Va a) {x y : bu} (hx : x ∈ a.Links) (hy : y ∈ a.Links) (he : x.bw = y.bw) : x = y := zU h.asc hx hy he
theorem rH (d : aD) (r : Int) : (∃ a ∈ d.az, a.aq = r ∧ ig d r = (a, true)) ∨ ((∀ a ∈ d.az, a.aq ≠ r) ∧ ig d r = (noA, false)) := by
 unfold ig
 cases h : d.az.find? (fun a => decide (a.aq = r)) with
 | some a => exact .inl ⟨a, List.mem_of_find?_eq_some h, by simpa using List.find?_some h, rfl⟩
 | none => exact .inr ⟨fun a ha => by simpa using List.find?_eq_none.1 h a ha, rfl⟩
theorem amX {d : aD} (h : Vd d) {a : ak} (ha : a ∈ d.az) : ig d a.aq = (a, true) := by
 rcases rH d a.aq with ⟨b, hb, he, hf⟩ | ⟨hn, _⟩
 ·rw [hf, h.uniq hb ha he]
 ·exact absurd rfl (hn a ha)
/-! links -/
def LkD (d : aD) (a b : Int) : Prop := ∃ x ∈ d.az, ∃ y ∈ d.az, x.aq = a ∧ y.aq = b ∧ (∃ p ∈ x.Links, p.bw = b) ∧ ∃ q ∈ y.Links, q.bw = a
theorem LkD.symm {d : aD} {a b : Int} (h : LkD d a b) : LkD d b a := by
 obtain ⟨x, hx, y, hy, e1, e2, p, q⟩ := h
 exact ⟨y, hy, x, hx, e2, e1, q, p⟩
def mkL (x : ak) (p : bu) (y : ak) (q : bu) : aT := aT.mk x.aq y.aq p.lY q.lY (if q.bY < p.bY then q.bY else p.bY)
/-- the link of x to y -/
def IsLy (x y : ak) (l : aT) : Prop := ∃ p ∈ x.Links, ∃ q ∈ y.Links, x.aq < y.aq ∧ p.bw = y.aq ∧ q.bw = x.aq ∧ l = mkL x p y q
inductive Rd (d : aD) (at1 : Int) : Int → Prop
 | refl : Rd d at1 at1
 | step {a b : Int} (h : Rd d at1 a) (hl : LkD d a b) : Rd d at1 b
structure IsV (d : aD) (at1 : Int) (T : aH) : Prop where
 ap9 : T.aK.Pairwise (fun a b => a.ID < b.ID)
 aqa : ∀ r, r ∈ T.aK ↔ ∃ a ∈ d.az, Rd d at1 a.aq ∧ r = aX.mk a.aq a.aW
 aqb : T.Links.Pairwise (fun a b => ltL a b = true)
 aqc : ∀ l, l ∈ T.Links ↔ ∃ x ∈ d.az, Rd d at1 x.aq ∧ ∃ y ∈ d.az, IsLy x y l
theorem tG {α : Type} {r : α → α → Prop} (hi : ∀ a, ¬ r a a) (ht : ∀ a b c, r a b → r b c → r a c) : ∀ {l m : List α}, l.Pairwise r → m.Pairwise r → (∀ x, x ∈ l ↔ x ∈ m) → l = m
 | [], [], _, _, _ => rfl
 | [], y :: m, _, _, h => by have := (h y).2 (by simp); simp at this
 | x :: l, [], _, _, h => by have := (h x).1 (by simp); simp at this
 | x :: l, y :: m, h1, h2, h => by
  rw [List.pairwise_cons] at h1 h2
  have hxy : x = y := by
   rcases List.mem_cons.1 ((h x).1 (by simp)) with e | e
   ·exact e
   rcases List.mem_cons.1 ((h y).2 (by simp)) with e' | e'
   ·exact e'.symm
   ·exact absurd (ht _ _ _ (h1.1 y e') (h2.1 x e)) (hi x)
  subst hxy
  congr 1
  refine tG hi ht h1.2 h2.2 fun z => ?_
  have := h z
  simp only [List.mem_cons] at this
  constructor
  ·intro hz
   rcases this.1 (.inr hz) with q | q
   ·subst q; exact absurd (h1.1 _ hz) (hi _)
   ·exact q
  ·intro hz
   rcases this.2 (.inr hz) with q | q
   ·subst q; exact absurd (h2.1 _ hz) (hi _)
   ·exact q
theorem IsV.unique {d : aD} {at1 : Int} {T U : aH} (h1 : IsV d at1 T) (h2 : IsV d at1 U) : T = U := by
 obtain ⟨r1, l1⟩ := T
 obtain ⟨r2, l2⟩ := U
 have e1 : r1 = r2 := tG (r := fun a b : aX => a.ID < b.ID) (fun a h => by omega) (fun a b c h h' => by omega) h1.ap9 h2.ap9 fun x => (h1.aqa x).trans (h2.aqa x).symm
 have e2 : l1 = l2 := tG (r := fun a b : aT => ltL a b = true) (fun a h => by simp [ltL] at h) (fun a b c h h' => uW a b c h h') h1.aqb h2.aqb fun x => (h1.aqc x).trans (h2.aqc x).symm
 rw [e1, e2]
def aqd : aH := aH.mk [] []
/-- what a View is -/
def aeT (d : aD) (at1 : Int) (T : aH) : Prop := (¬ ((∃ a ∈ d.az, a.aq = at1) ∧ Vd d) ∧ T = aqd) ∨ (((∃ a ∈ d.az, a.aq = at1) ∧ Vd d) ∧ ∃ T0, IsV d at1 T0 ∧ T = if mT T0 = 0 then T0 else aqd)
theorem aeT.unique {d : aD} {at1 : Int} {T U : aH} (h1 : aeT d at1 T) (h2 : aeT d at1 U) : T = U := by
 rcases h1 with ⟨a, b⟩ | ⟨a, T0, b, c⟩ <;> rcases h2 with ⟨a', b'⟩ | ⟨a', U0, b', c'⟩
 ·rw [b, b']
 ·exact absurd a' a
 ·exact absurd a a'
 ·rw [c, c', b.unique b']
def rts (d : aD) : List Int := d.az.map (·.aq)
theorem LkD.mem {d : aD} {a b : Int} (h : LkD d a b) : b ∈ rts d := by
 obtain ⟨x, hx, y, hy, e1, e2, _⟩ := h
 exact List.mem_map.2 ⟨y, hy, e2⟩
/-! ## the specification's View -/
theorem Vd.key {d : aD} (h : Vd d) {a : ak} {r : Int} (ha : a ∈ d.az) (he : a.aq = r) : ig d r = (a, true) := by subst he; exact amX h ha
theorem amY {a b : aT} : ltL a b = true ↔ a.A < b.A ∨ a.A = b.A ∧ a.B < b.B := by simp [ltL]
/-! ## the xz View -/
end Go.Proofs.YtpmifmdidfgpdaaGreat

/- Plain: streams of bits and what vQ are written as, by both. No condition but bU bB stand in each. -/
namespace Go.Proofs.YtpmifmdidfgpdaaGreat
set_option linter.all false
open Go
def vk : List Int → Nat := List.foldl (fun a b => a * 256 + b.toNat) 0
theorem uC (l : List Int) (b : Int) : vk (l ++ [b]) = vk l * 256 + b.toNat := by simp [vk]
theorem abn {α : Type} : ∀ {l : List α}, l ≠ [] → ∃ i b, l = i ++ [b] := fun {l} h => ⟨l.dropLast, l.getLast h, (List.dropLast_concat_getLast h).symm⟩
theorem ac3 : ∀ (n : Nat) (l m : List Int), l.length = n → m.length = n → (∀ b ∈ l, 0 ≤ b ∧ b < 256) → (∀ b ∈ m, 0 ≤ b ∧ b < 256) → vk l = vk m → l = m
 | 0, l, m, h1, h2, _, _, _ => by simp at h1 h2; rw [h1, h2]
 | n + 1, l, m, h1, h2, hl, hm, h => by
  obtain ⟨i, b, rfl⟩ := abn (l := l) (by intro e; simp [e] at h1)
  obtain ⟨j, c, rfl⟩ := abn (l := m) (by intro e; simp [e] at h2)
  rw [uC, uC] at h
  have hb := hl b (by simp)
  have hc := hm c (by simp)
  have e1 : b = c := by omega
  have e2 : vk i = vk j := by omega
  subst e1
  rw [ac3 n i j (by simpa using h1) (by simpa using h2) (fun x hx => hl x (by simp [hx])) (fun x hx => hm x (by simp [hx])) e2]
/-- bytes bB hold the B bits of a number V -/
structure SR (D : List Int) (B V : Nat) : Prop where
 by_ : ∀ b ∈ D, 0 ≤ b ∧ b < 256
 le : B ≤ 8 * D.length
 hi : 8 * D.length ≤ B + 8
 num : vk D = V * 2 ^ (8 * D.length - B)
theorem SR.unique {D E : List Int} {B V : Nat} (h1 : SR D B V) (h2 : SR E B V) (a : 8 * D.length < B + 8) (b : 8 * E.length < B + 8) : D = E := by
 have e : D.length = E.length := by have := h1.le; have := h2.le; omega
 exact ac3 _ D E rfl e.symm h1.by_ h2.by_ (by rw [h1.num, h2.num, e])
theorem SR.nil : SR [] 0 0 := ⟨by simp, by simp, by simp, by simp [vk]⟩
theorem SR.more {D : List Int} {B V : Nat} (h : SR D B V) (h8 : 8 * D.length = B) : SR (D ++ [0]) B V := by
 refine ⟨?_, by simp; omega, by simp; omega, ?_⟩
 ·intro b hb
  rcases List.mem_append.1 hb with hb | hb
  ·exact h.by_ b hb
  ·simp at hb; omega
 ·rw [uC, h.num]
  have e : 8 * (D ++ [(0:Int)]).length - B = 8 := by simp; omega
  rw [e]
  have e2 : 8 * D.length - B = 0 := by omega
  rw [e2]; simp
theorem SR.last {D : List Int} {b : Int} {B V : Nat} (h : SR (D ++ [b]) B V) (hf : B < 8 * (D.length + 1)) : 0 ≤ b ∧ b < 256 ∧ b.toNat % 2 ^ (8 * (D.length + 1) - B) = 0 := by
 have hb := h.by_ b (by simp)
 refine ⟨hb.1, hb.2, ?_⟩
 have hn := h.num
 have hh := h.hi
 simp only [List.length_append, List.length_cons, List.length_nil, Nat.zero_add] at hn hh
 rw [uC] at hn
 generalize hk : 8 * (D.length + 1) - B = k at hn ⊢
 have h1 : (256 : Nat) = 2 ^ k * 2 ^ (8 - k) := by rw [← Nat.pow_add, show k + (8 - k) = 8 by omega]
 have h2 : (vk D * 256 + b.toNat) % 2 ^ k = 0 := by rw [hn]; exact Nat.mul_mod_left _ _
 rw [h1, ← Nat.mul_assoc, Nat.mul_right_comm, Nat.mul_add_mod'] at h2
 exact h2
theorem SR.push {D : List Int} {b : Int} {B V k x : Nat} (h : SR (D ++ [b]) B V) (hk : 1 ≤ k) (hf : B + k ≤ 8 * (D.length + 1)) (hx : x < 2 ^ k) :
  SR (D ++ [b + (x * 2 ^ (8 * (D.length + 1) - B - k) : Nat)]) (B + k) (V * 2 ^ k + x) ∧ b.toNat + x * 2 ^ (8 * (D.length + 1) - B - k) < 256 ∧ x * 2 ^ (8 * (D.length + 1) - B - k) < 2 ^ (8 * (D.length + 1) - B) := by
 obtain ⟨b0, b1, b2⟩ := h.last (by omega)
 have hh := h.hi
 simp only [List.length_append, List.length_cons, List.length_nil, Nat.zero_add] at hh
 generalize hf0 : 8 * (D.length + 1) - B = f at b2 ⊢
 have hx2 : x * 2 ^ (f - k) < 2 ^ f := by
  have : 2 ^ f = 2 ^ k * 2 ^ (f - k) := by rw [← Nat.pow_add, show k + (f - k) = f by omega]
  rw [this]; exact Nat.mul_lt_mul_of_pos_right hx (Nat.two_pow_pos _)
 have hlt : b.toNat + x * 2 ^ (f - k) < 256 := by
  have e1 : (256 : Nat) = 2 ^ f * 2 ^ (8 - f) := by rw [← Nat.pow_add, show f + (8 - f) = 8 by omega]
  obtain ⟨q, hq⟩ := Nat.dvd_of_mod_eq_zero b2
  have hb8 : b.toNat < 2 ^ f * 2 ^ (8 - f) := by rw [← e1]; omega
  rw [hq] at hb8 ⊢
  have hq8 : q < 2 ^ (8 - f) := Nat.lt_of_mul_lt_mul_left hb8
  rw [e1]
  have s1 : 2 ^ f * (q + 1) ≤ 2 ^ f * 2 ^ (8 - f) := Nat.mul_le_mul_left _ hq8
  rw [Nat.mul_add, Nat.mul_one] at s1
  omega
 refine ⟨⟨?_, by simp; omega, by simp; omega, ?_⟩, hlt, hx2⟩
 ·intro y hy
  rcases List.mem_append.1 hy with hy | hy
  ·exact h.by_ y (by simp [hy])
  ·simp only [List.mem_singleton] at hy; omega
 ·have hn := h.num
  simp only [List.length_append, List.length_cons, List.length_nil, Nat.zero_add] at hn ⊢
  rw [uC] at hn ⊢
  rw [hf0] at hn
  rw [show 8 * (D.length + 1) - (B + k) = f - k by omega]
  have e : (b + (x * 2 ^ (f - k) : Nat)).toNat = b.toNat + x * 2 ^ (f - k) := by omega
  rw [e, Nat.add_mul, Nat.mul_assoc, ← Nat.pow_add, show k + (f - k) = f by omega]
  omega
theorem afI {b y f : Nat} (hb : b % 2 ^ f = 0) (hy : y < 2 ^ f) : b ||| y = b + y := by
 obtain ⟨q, rfl⟩ := Nat.dvd_of_mod_eq_zero hb
 rw [Nat.mul_comm, ← Nat.shiftLeft_eq, Nat.shiftLeft_add_eq_or_of_lt hy]
theorem afJ (n : Int) : IntKind.wrap .u8 n = n % 256 := rfl
theorem amZ (n : Int) : IntKind.wrap .u64 n = n % 18446744073709551616 := rfl
theorem wU8 {n : Nat} (h : n < 256) : IntKind.wrap .u8 (n : Int) = n := by rw [afJ]; omega
theorem pe {n : Nat} (h : n < 18446744073709551616) : IntKind.wrap .u64 (n : Int) = n := by rw [amZ]; omega
theorem or8 {a b : Nat} (ha : a < 256) (hb : b < 256) : cU .or .u8 a b = ((a ||| b : Nat) : Int) := by
 show IntKind.wrap .u8 ((BitVec.ofNat 8 a ||| BitVec.ofNat 8 b).toNat : Int) = _
 rw [BitVec.toNat_or, BitVec.toNat_ofNat, BitVec.toNat_ofNat, Nat.mod_eq_of_lt (show a < 2 ^ 8 from ha), Nat.mod_eq_of_lt (show b < 2 ^ 8 from hb)]
 exact wU8 (Nat.or_lt_two_pow (n := 8) ha hb)
theorem and8 {a b : Nat} (ha : a < 256) (hb : b < 256) : cU .and .u8 a b = ((a &&& b : Nat) : Int) := by
 show IntKind.wrap .u8 ((BitVec.ofNat 8 a &&& BitVec.ofNat 8 b).toNat : Int) = _
 rw [BitVec.toNat_and, BitVec.toNat_ofNat, BitVec.toNat_ofNat, Nat.mod_eq_of_lt (show a < 2 ^ 8 from ha), Nat.mod_eq_of_lt (show b < 2 ^ 8 from hb)]
 exact wU8 (Nat.lt_of_le_of_lt Nat.and_le_left ha)
theorem ajU {a b : Nat} (ha : a < 2 ^ 64) (hb : b < 2 ^ 64) : cU .and .u64 a b = ((a &&& b : Nat) : Int) := by
 show IntKind.wrap .u64 ((BitVec.ofNat 64 a &&& BitVec.ofNat 64 b).toNat : Int) = _
 rw [BitVec.toNat_and, BitVec.toNat_ofNat, BitVec.toNat_ofNat, Nat.mod_eq_of_lt ha, Nat.mod_eq_of_lt hb]
 exact pe (Nat.lt_of_le_of_lt Nat.and_le_left ha)
theorem aqe {a : Nat} (ha : a < 256) : cU .and .u8 a 1 = ((a % 2 : Nat) : Int) := by
 have := and8 ha (show 1 < 256 by decide)
 rw [Nat.and_one_is_mod] at this; exact this
theorem abo {a : Nat} (ha : a < 2 ^ 64) : cU .and .u64 a 1 = ((a % 2 : Nat) : Int) := by
 have := ajU ha (show 1 < 2 ^ 64 by decide)
 rw [Nat.and_one_is_mod] at this; exact this
theorem aqf {a k : Nat} (ha : a < 2 ^ 64) (hk : k < 64) : cU .and .u64 a ((2 ^ k - 1 : Nat) : Int) = ((a % 2 ^ k : Nat) : Int) := by
 have hb : 2 ^ k - 1 < 2 ^ 64 := by have := Nat.pow_lt_pow_right (show 1 < 2 by decide) hk; omega
 rw [ajU ha hb, Nat.and_two_pow_sub_one_eq_mod]
theorem yF (a k : Nat) : Int.fdiv (a : Int) (2 ^ k) = ((a / 2 ^ k : Nat) : Int) := by
 have : ((2 : Int) ^ k) = ((2 ^ k : Nat) : Int) := by norm_cast
 rw [this, Int.fdiv_eq_ediv_of_nonneg _ (Int.natCast_nonneg _)]; rfl
def qm : List UInt8 → List UInt8 → Int
 | [], [] => 0
 | [], _ :: _ => -1
 | _ :: _, [] => 1
 | a :: x, b :: y => if a = b then qm x y else if a < b then -1 else 1
theorem aqg (l : List UInt8) (i : Nat) : (⟨l.toArray⟩ : ByteArray)[i]! = l[i]! := by
 by_cases h : i < l.length
 ·rw [getElem!_pos l i h, getElem!_pos (⟨l.toArray⟩ : ByteArray) i (by show i < l.toArray.size; simpa using h)]; rfl
 ·rw [getElem!_neg l i h, getElem!_neg (⟨l.toArray⟩ : ByteArray) i (by show ¬ i < l.toArray.size; simpa using h)]
theorem aiu : ∀ (x y : List UInt8), Go.Extern.BytealgCompare.cmp ⟨x.toArray⟩ ⟨y.toArray⟩ = qm x y := by
 intro x y
 unfold Go.Extern.BytealgCompare.cmp
 simp only [aqg]
 show (match (List.range (min x.length y.length)).find? fun i => x[i]! != y[i]! with
  | some i => if x[i]! < y[i]! then -1 else 1
  | none => if x.length < y.length then -1 else if x.length > y.length then 1 else 0) = qm x y
 induction x generalizing y with
 | nil => cases y <;> simp [qm]
 | cons a x ih =>
  cases y with
  | nil => simp [qm]
  | cons b y =>
   simp only [qm, List.length_cons]
   rw [show min (x.length + 1) (y.length + 1) = min x.length y.length + 1 by omega, List.range_succ_eq_map, List.find?_cons]
   by_cases h : a = b
   ·subst h
    rw [if_pos rfl, ← ih]
    simp only [List.getElem!_cons_zero, bne_self_eq_false, List.find?_map, Function.comp_def, Nat.succ_eq_add_one, List.getElem!_cons_succ]
    cases (List.range (min x.length y.length)).find? (fun i => x[i]! != y[i]!) <;> simp
   ·rw [if_neg h]
    have e : ((a :: x)[0]! != (b :: y)[0]!) = true := by simpa using h
    simp only [e]
    simp
theorem ac4 : ∀ (x y : List UInt8), 0 < qm x y ↔ (Go.Op.bytesLess x y = false ∧ x ≠ y)
 | [], [] => by simp [Go.Op.bytesLess, qm]
 | [], _ :: _ => by simp [Go.Op.bytesLess, qm]
 | _ :: _, [] => by simp [Go.Op.bytesLess, qm]
 | a :: x, b :: y => by
  simp only [Go.Op.bytesLess, qm]
  by_cases h : a = b
  ·subst h
   rw [if_pos rfl, ac4 x y]
   have : ¬ a < a := UInt8.lt_irrefl a
   simp [this]
  ·rw [if_neg h]
   by_cases h2 : a < b
   ·simp [h2]
   ·simp [h2, h]
theorem afK (x y : List UInt8) : (!(Go.Op.bytesLess x y || x == y)) = decide (0 < qm x y) := by
 rw [Bool.eq_iff_iff, decide_eq_true_iff, ac4]
 cases Go.Op.bytesLess x y <;> simp
/-- a stream bB holds the B bits of V -/
structure Str (s : aY) (B V : Nat) : Prop where
 b : s.Bits = B
 r : SR s.Data B V
 t : 8 * s.Data.length < B + 8
theorem Str.nil : Str (aY.mk [] 0) 0 0 := ⟨rfl, SR.nil, by simp⟩
theorem Str.unique {s u : aY} {B V : Nat} (h1 : Str s B V) (h2 : Str u B V) : s = u := by
 have := h1.r.unique h2.r h1.t h2.t
 obtain ⟨d, n⟩ := s
 obtain ⟨e, m⟩ := u
 have a := h1.b; have b := h2.b
 simp only at this a b
 subst this; rw [a, b]
theorem Str.split {s : aY} {B V : Nat} (h : Str s B V) (hf : 8 * s.Data.length ≠ B) : ∃ i b, s.Data = i ++ [b] ∧ 8 * (i.length + 1) = 8 * s.Data.length := by
 have := h.r.le
 obtain ⟨i, b, e⟩ := abn (l := s.Data) (by intro e; simp [e] at *; omega)
 exact ⟨i, b, e, by rw [e]; simp⟩
theorem wN {α : Type} (i : List α) (b : α) {n : Int} (h : n = i.length) : elO (i ++ [b]) n = some b := by subst h; exact iS i b []
theorem abK {α : Type} (i : List α) (b c : α) {n : Int} (h : n = i.length) : iV (i ++ [b]) n c = some (i ++ [c]) := by
 subst h
 unfold iV
 rw [if_pos ⟨by omega, by simp; omega⟩]
 simp
theorem adu {n : Nat} (h : n ≤ 100000) : nM n = some (((n + 7) / 8 : Nat) : Int) := by
 unfold nM
 have e : Int.tdiv ((n : Int) + 7) 8 = (((n + 7) / 8 : Nat) : Int) := by rw [Int.tdiv_eq_ediv_of_nonneg (by omega)]; omega
 rw [cr (n := (n : Int) + 7) (by omega) (by omega), e, cr (by omega) (by omega)]
theorem y5 {s : aY} {B V : Nat} (h : Str s B V) (hB : B ≤ 8192) : lz s = some true := by
 have hle := h.r.le; have ht := h.t; have hb := h.b
 refine Ok.eq ?_
 unfold lz
 refine Ok.jn (fun v => v = false) (fun v hv => ?_) (fun J hJ => ?_)
 ·subst hv
  rw [cond_false, hb, cr (n := 8 * (s.Data.length : Int)) (by omega) (by omega), cr (n := 8 * (s.Data.length : Int) - B) (by omega) (by omega)]
  refine Ok.cs (fun _ => Ok.s rfl) fun hc => ?_
  have hc : 8 * (s.Data.length : Int) - B ≠ 0 := by simpa using hc
  obtain ⟨i, b, hD, hi⟩ := h.split (by omega)
  have hl := h.r
  rw [hD] at hl
  obtain ⟨b0, b1, b2⟩ := hl.last (by omega)
  rw [cr (n := (s.Data.length : Int) - 1) (by omega) (by omega), hD, wN i b (by simp), aP]
  have e : 8 * ((i ++ [b]).length : Int) - B = ((8 * (i.length + 1) - B : Nat) : Int) := by simp; omega
  rw [e]
  generalize hf : 8 * (i.length + 1) - B = f at b2 ⊢
  rw [cr (n := (8 : Int) - (f : Int)) (by omega) (by omega)]
  refine Ok.chk (by simp; omega) (Ok.s ?_)
  obtain ⟨q, hq⟩ := Nat.dvd_of_mod_eq_zero b2
  have e2 : min ((8 : Int) - f).toNat 8 = 8 - f := by omega
  rw [e2, show b = ((b.toNat : Nat) : Int) by omega, hq]
  have e3 : (((2 ^ f * q : Nat) : Int) * 2 ^ (8 - f)) = ((256 * q : Nat) : Int) := by
   have e1 : (256 : Nat) = 2 ^ f * 2 ^ (8 - f) := by rw [← Nat.pow_add, show f + (8 - f) = 8 by omega]
   rw [e1, Nat.mul_assoc, Nat.mul_comm (2 ^ (8 - f)) q, ← Nat.mul_assoc]
   push_cast; rfl
  rw [e3, afJ]
  simp
 ·rw [hb, adu (by omega)]
  refine Ok.cs (fun hc => by simp at hc; omega) fun _ => ?_
  refine Ok.cs (fun hc => by simp at hc; omega) fun _ => ?_
  rw [aP]
  exact hJ _ (by simp; omega)
theorem adv {s : aY} {B V v n : Nat} (h : Str s B V) (hn : n ≤ 64) (hv : v < 2 ^ n) (hB : B + n ≤ 8192) : Ok (nN s v n) (fun u => Str u (B + n) (V * 2 ^ n + v)) := by
 unfold nN
 have aeU : v < 2 ^ 64 := Nat.lt_of_lt_of_le hv (Nat.pow_le_pow_right (by decide) hn)
 refine Ok.whl (fun sg : Int × List Int × Int => ∃ (r k : Nat) (D : List Int), sg = ((r : Int), D, ((B + k : Nat) : Int)) ∧ r + k = n ∧ SR D (B + k) (V * 2 ^ k + v / 2 ^ r) ∧ 8 * D.length < B + k + 8) (fun sg => sg.1.toNat) ⟨n, 0, s.Data, by rw [h.b]; rfl, by simp, by
   rw [Nat.div_eq_of_lt hv]; simpa using h.r, by simpa using h.t⟩ (by simp only; omega) ?_
 rintro _ Z ⟨r, k, D, rfl, hrk, hr, ht⟩ hZ
 have hle := hr.le
 simp only
 refine Ok.cs (fun hc => ?_) fun hc => ?_
 ·have hr0 : 0 < r := by simpa using hc
  rw [cr (n := 8 * (D.length : Int)) (by omega) (by omega), cr (n := 8 * (D.length : Int) - ((B + k : Nat) : Int)) (by omega) (by omega)]
  refine Ok.jn (fun sg : Int × List Int => ∃ (i : List Int) (b : Int) (f : Nat), sg = ((f : Int), i ++ [b]) ∧ SR (i ++ [b]) (B + k) (V * 2 ^ k + v / 2 ^ r) ∧ 8 * (i.length + 1) - (B + k) = f ∧ 1 ≤ f ∧ f ≤ 8) ?_ ?_
  ·rintro _ ⟨i, b, f, rfl, hs, hf, hf1, hf8⟩
   simp only
   obtain ⟨m, hm⟩ : ∃ m : Nat, (if (f : Int) < r then (f : Int) else r) = m ∧ 1 ≤ m ∧ m ≤ f ∧ m ≤ r := by
    by_cases h : (f : Int) < r
    ·exact ⟨f, by rw [if_pos h], by omega, by omega, by omega⟩
    ·exact ⟨r, by rw [if_neg h], by omega, by omega, by omega⟩
   obtain ⟨hm, hm1, hmf, hmr⟩ := hm
   rw [hm]
   have e1 : w64 ((r : Int) - m) = ((r - m : Nat) : Int) := by rw [cr (by omega) (by omega)]; omega
   have e2 : w64 ((f : Int) - m) = ((f - m : Nat) : Int) := by rw [cr (by omega) (by omega)]; omega
   have e3 : w64 (((i ++ [b]).length : Int) - 1) = i.length := by
    have := hs.le; have := hs.hi
    simp at *
    rw [cr (by omega) (by omega)]
   have e4 : w64 (((B + k : Nat) : Int) + m) = ((B + (k + m) : Nat) : Int) := by rw [cr (by omega) (by omega)]; omega
   rw [e1, e2, e3, e4]
   refine Ok.chk (by simp) (Ok.chk (by simp) ?_)
   rw [wN i b rfl, aP]
   refine Ok.chk (by simp) ?_
   have hsl := hs.last (by omega)
   have e5 : Int.fdiv (v : Int) (2 ^ min ((r - m : Nat) : Int).toNat 64) = ((v / 2 ^ (r - m) : Nat) : Int) := by
    rw [show min ((r - m : Nat) : Int).toNat 64 = r - m by omega, yF]
   have e6 : IntKind.wrap .u64 (IntKind.wrap .u64 ((1 : Int) * 2 ^ min (m : Int).toNat 64) - 1) = ((2 ^ m - 1 : Nat) : Int) := by
    rw [show min (m : Int).toNat 64 = m by omega]
    have hp : 2 ^ m ≤ 2 ^ 8 := Nat.pow_le_pow_right (by decide) (by omega)
    have hp0 : 0 < 2 ^ m := Nat.two_pow_pos m
    have : (1 : Int) * 2 ^ m = ((2 ^ m : Nat) : Int) := by push_cast; omega
    rw [this, pe (by omega), show ((2 ^ m : Nat) : Int) - 1 = ((2 ^ m - 1 : Nat) : Int) by omega, pe (by omega)]
   rw [e5, e6, aqf (Nat.lt_of_le_of_lt (Nat.div_le_self _ _) aeU) (by omega)]
   obtain ⟨hp1, hp2, hp3⟩ := hs.push (k := m) (x := v / 2 ^ (r - m) % 2 ^ m) hm1 (by omega) (Nat.mod_lt _ (Nat.two_pow_pos _))
   rw [hf] at hp1 hp2 hp3
   generalize hx : v / 2 ^ (r - m) % 2 ^ m = x at hp1 hp2 hp3 ⊢
   have e7 : (x : Int) * 2 ^ min ((f - m : Nat) : Int).toNat 64 = ((x * 2 ^ (f - m) : Nat) : Int) := by
    rw [show min ((f - m : Nat) : Int).toNat 64 = f - m by omega]; push_cast; rfl
   have hy : x * 2 ^ (f - m) < 256 := by omega
   rw [e7, pe (by omega), wU8 (by omega)]
   rw [hf] at hsl
   have e8 : cU .or .u8 b ((x * 2 ^ (f - m) : Nat) : Int) = b + ((x * 2 ^ (f - m) : Nat) : Int) := by
    obtain ⟨hb0, hb1, hb2⟩ := hsl
    have := or8 (a := b.toNat) (b := x * 2 ^ (f - m)) (by omega) hy
    rw [show ((b.toNat : Nat) : Int) = b by omega] at this
    rw [this, afI hb2 hp3]; omega
   rw [e8, abK i b _ rfl, aP]
   refine hZ _ ⟨r - m, k + m, _, rfl, by omega, ?_, ?_⟩ (by simp only; omega)
   ·rw [← Nat.add_assoc]
    have e9 : (V * 2 ^ k + v / 2 ^ r) * 2 ^ m + x = V * 2 ^ (k + m) + v / 2 ^ (r - m) := by
     have d1 : v / 2 ^ r = v / 2 ^ (r - m) / 2 ^ m := by rw [Nat.div_div_eq_div_mul, ← Nat.pow_add, show r - m + m = r by omega]
     rw [Nat.add_mul, Nat.mul_assoc, ← Nat.pow_add, d1, ← hx]
     have := Nat.div_add_mod (v / 2 ^ (r - m)) (2 ^ m)
     rw [Nat.mul_comm (2 ^ m)] at this
     omega
    rw [← e9]; exact hp1
   ·simp; omega
  ·intro J hJ
   refine Ok.cs (fun hc => ?_) fun hc => ?_
   ·have hc : 8 * (D.length : Int) - ((B + k : Nat) : Int) = 0 := by simpa using hc
    rw [dJ (by simp; omega), aP]
    exact hJ _ ⟨D, 0, 8, rfl, hr.more (by omega), by omega, by omega, by omega⟩
   ·have hc : 8 * (D.length : Int) - ((B + k : Nat) : Int) ≠ 0 := by simpa using hc
    have hst : Str (aY.mk D ((B + k : Nat) : Int)) (B + k) (V * 2 ^ k + v / 2 ^ r) := ⟨rfl, hr, ht⟩
    obtain ⟨i, b, hD, hi⟩ := hst.split (by simp only; omega)
    simp only at hD hi
    refine hJ _ ⟨i, b, 8 * D.length - (B + k), ?_, by rw [← hD]; exact hr, by omega, by omega, by omega⟩
    rw [← hD]; simp; omega
 ·have hr0 : r = 0 := by simpa using hc
  subst hr0
  obtain rfl : k = n := by omega
  refine Ok.s ⟨rfl, ?_, by simpa using ht⟩
  simpa using hr
theorem ac5 {s : aY} {B V v n : Nat} (h : Str s B V) (hn : n ≤ 64) (hv : v < 2 ^ n) (hB : B + n ≤ 8192) : Ok (mK s v n) (fun u => Str u.1 (B + n) (V * 2 ^ n + v) ∧ u.2 = 0) := by
 unfold mK
 have hle := h.r.le; have ht := h.t; have hb := h.b
 rw [y5 h (by omega), aP]
 simp only [Bool.not_true, cond_false]
 refine Ok.jn (fun v => v = false) (fun v1 hv1 => ?_) fun J hJ => ?_
 ·subst hv1
  rw [cond_false, hb, cr (by omega) (by omega)]
  refine Ok.cs (fun hc => by simp at hc; omega) fun _ => ?_
  unfold pX
  rw [dJ (by simp; omega), aP, aP]
  refine Ok.bnd (adv (B := B) (V := V) (s := aY.mk ([] ++ s.Data) s.Bits) ⟨hb, by simpa using h.r, by simpa using ht⟩ hn hv hB) fun u hu => Ok.s ⟨hu, rfl⟩
 ·refine Ok.cs (fun hc => by simp at hc; omega) fun _ => ?_
  refine Ok.cs (fun hc => by simp at hc; omega) fun _ => ?_
  refine Ok.cs (fun hc => ?_) fun _ => hJ _ rfl
  have hn2 : n < 64 := by simp at hc; omega
  refine Ok.chk (by simp) (hJ _ ?_)
  rw [show min ((n : Nat) : Int).toNat 64 = n by omega, yF, Nat.div_eq_of_lt hv]; simp
theorem ac6 {i : List Int} {b : Int} {k : Nat} (h0 : 0 ≤ b) (h1 : b < 256) (hk : 8 * i.length ≤ k) (hk2 : k < 8 * (i.length + 1)) (hl : k ≤ 100000) : kG (i ++ [b]) (k : Int) = some ((b.toNat / 2 ^ (7 - k % 8) % 2 : Nat) : Int) := by
 unfold kG
 have e1 : Int.tdiv (k : Int) 8 = i.length := by rw [Int.tdiv_eq_ediv_of_nonneg (by omega)]; omega
 have e2 : Int.tmod (k : Int) 8 = ((k % 8 : Nat) : Int) := by rw [Int.tmod_eq_emod_of_nonneg (by omega)]; omega
 have e3 : (7 : Int) - ((k % 8 : Nat) : Int) = ((7 - k % 8 : Nat) : Int) := by omega
 rw [e1, e2, e3, cr (by omega) (by omega), wN i b rfl, aP, cr (by omega) (by omega), pe (by omega)]
 rw [nE (by simp)]
 have e4 : min ((7 - k % 8 : Nat) : Int).toNat 8 = 7 - k % 8 := by omega
 have hlt : b.toNat / 2 ^ (7 - k % 8) < 256 := Nat.lt_of_le_of_lt (Nat.div_le_self _ _) (by omega)
 have e5 : Int.fdiv b (2 ^ (7 - k % 8)) = ((b.toNat / 2 ^ (7 - k % 8) : Nat) : Int) := by
  rw [← yF, show ((b.toNat : Nat) : Int) = b by omega]
 rw [e4, e5, pe (by omega), abo (by omega)]
theorem sx {s : aY} {B V : Nat} (h : Str s B V) (hB : B ≤ 8192) : jQ s = some true := by
 have hle := h.r.le; have ht := h.t; have hb := h.b
 refine Ok.eq ?_
 unfold jQ
 rw [hb]
 have e1 : Int.tdiv (w64 ((B : Int) + 7)) 8 = ((s.Data.length : Nat) : Int) := by rw [cr (by omega) (by omega), Int.tdiv_eq_ediv_of_nonneg (by omega)]; omega
 rw [e1, cr (n := (s.Data.length : Int)) (by omega) (by omega), cr (n := 8 * (s.Data.length : Int)) (by omega) (by omega)]
 refine Ok.cs (fun hc => by simp at hc; omega) fun _ => ?_
 refine Ok.whl (fun i : Int => (B : Int) ≤ i ∧ i ≤ 8 * s.Data.length) (fun i => (8 * (s.Data.length : Int) - i).toNat) ⟨by omega, by omega⟩ (by omega) ?_
 rintro i Z ⟨h1, h2⟩ hZ
 refine Ok.cs (fun hc => ?_) fun _ => Ok.s rfl
 have hc : i < 8 * (s.Data.length : Int) := by simpa using hc
 obtain ⟨p, b, hD, hi⟩ := h.split (by omega)
 have hl := h.r
 rw [hD] at hl
 obtain ⟨b0, b1, b2⟩ := hl.last (by omega)
 obtain ⟨k, rfl⟩ : ∃ k : Nat, i = k := ⟨i.toNat, by omega⟩
 rw [hD, ac6 b0 b1 (by omega) (by omega) (by omega), aP]
 have hbit : b.toNat / 2 ^ (7 - k % 8) % 2 = 0 := by
  obtain ⟨q, hq⟩ := Nat.dvd_of_mod_eq_zero b2
  generalize hf : 8 * (p.length + 1) - B = f at hq
  have : 2 ^ f = 2 ^ (7 - k % 8) * (2 * 2 ^ (f - (7 - k % 8) - 1)) := by
   rw [← Nat.pow_succ', ← Nat.pow_add]; congr 1; omega
  rw [hq, this, Nat.mul_assoc, Nat.mul_div_cancel_left _ (Nat.two_pow_pos _), Nat.mul_assoc]
  exact Nat.mul_mod_right _ _
 rw [hbit]
 refine Ok.cs (fun hc => by simp at hc) fun _ => ?_
 rw [cr (by omega) (by omega)]
 exact hZ _ ⟨by omega, by omega⟩ (by omega)
theorem abL {s : aY} {B V b : Nat} (h : Str s B V) (hb1 : b < 2) (hB : B + 1 ≤ 8192) : Ok (nW s b) (fun u => Str u (B + 1) (V * 2 + b)) := by
 have hle := h.r.le; have ht := h.t; have hb := h.b
 unfold nW
 rw [hb]
 have e1 : Int.tdiv (B : Int) 8 = ((B / 8 : Nat) : Int) := by rw [Int.tdiv_eq_ediv_of_nonneg (by omega)]; omega
 have e2 : Int.tmod (B : Int) 8 = ((B % 8 : Nat) : Int) := by rw [Int.tmod_eq_emod_of_nonneg (by omega)]; omega
 have e3 : (7 : Int) - ((B % 8 : Nat) : Int) = ((7 - B % 8 : Nat) : Int) := by omega
 rw [e1, e2, e3, cr (by omega) (by omega), cr (by omega) (by omega), cr (by omega) (by omega), pe (by omega)]
 refine Ok.bnd (P := fun l => l = s.Data) ⟨_, dJ (by simp; omega), by simp⟩ ?_
 rintro _ rfl
 refine Ok.jn (fun l => ∃ (i : List Int) (c : Int), l = i ++ [c] ∧ SR (i ++ [c]) B V ∧ i.length = B / 8) ?_ ?_
 ·rintro _ ⟨i, c, rfl, hs, hi⟩
  refine Ok.jn (fun l => SR l (B + 1) (V * 2 + b) ∧ 8 * l.length < B + 1 + 8) (fun l hl => Ok.s ⟨rfl, hl.1, hl.2⟩) fun J hJ => ?_
  obtain ⟨hp1, hp2, hp3⟩ := hs.push (k := 1) (x := b) (by omega) (by omega) (by omega)
  refine Ok.cs (fun hc => ?_) fun hc => ?_
  ·have hc : b = 1 := by simp at hc; omega
   subst hc
   rw [wN i c (by omega), aP, nE (by simp)]
   obtain ⟨c0, c1, c2⟩ := hs.last (by omega)
   have e5 : min ((7 - B % 8 : Nat) : Int).toNat 8 = 8 * (i.length + 1) - B - 1 := by omega
   have e6 : (1 : Int) * 2 ^ (8 * (i.length + 1) - B - 1) = ((1 * 2 ^ (8 * (i.length + 1) - B - 1) : Nat) : Int) := by push_cast; rfl
   rw [e5, e6, wU8 (by omega)]
   have e8 : cU .or .u8 c ((1 * 2 ^ (8 * (i.length + 1) - B - 1) : Nat) : Int) = c + ((1 * 2 ^ (8 * (i.length + 1) - B - 1) : Nat) : Int) := by
    have := or8 (a := c.toNat) (b := 1 * 2 ^ (8 * (i.length + 1) - B - 1)) (by omega) (by omega)
    rw [show ((c.toNat : Nat) : Int) = c by omega] at this
    rw [this, afI c2 hp3]; omega
   rw [e8, abK i c _ (by omega), aP]
   exact hJ _ ⟨by simpa using hp1, by simp; omega⟩
  ·have hc : b = 0 := by simp at hc; omega
   subst hc
   refine hJ _ ⟨by simpa using hp1, by simp; omega⟩
 ·intro J hJ
  refine Ok.cs (fun hc => ?_) fun hc => ?_
  ·have hc : B % 8 = 0 := by simp at hc; omega
   rw [dJ (by simp; omega), aP]
   exact hJ _ ⟨s.Data, 0, rfl, h.r.more (by omega), by omega⟩
  ·have hc : B % 8 ≠ 0 := by simp at hc; omega
   obtain ⟨i, c, hD, hi⟩ := h.split (by omega)
   exact hJ _ ⟨i, c, hD, hD ▸ h.r, by omega⟩
theorem ac7 {s : aY} {B V v n : Nat} (h : Str s B V) (hn : n ≤ 64) (hv : v < 2 ^ n) (hB : B + n ≤ 8192) : Ok (mL s v n) (fun u => Str u.1 (B + n) (V * 2 ^ n + v) ∧ u.2 = 0) := by
 unfold mL
 have hb := h.b
 have aeU : v < 2 ^ 64 := Nat.lt_of_lt_of_le hv (Nat.pow_le_pow_right (by decide) hn)
 rw [sx h (by omega), aP]
 simp only [Bool.not_true, cond_false]
 refine Ok.jn (fun v => v = false) (fun v1 hv1 => ?_) fun J hJ => ?_
 ·subst hv1
  rw [cond_false, hb, cr (n := (B : Int) + n) (by omega) (by omega)]
  refine Ok.cs (fun hc => by simp at hc; omega) fun _ => ?_
  refine Ok.whl (fun sg : Int × List Int × Int => ∃ (r k : Nat), sg.1 = (r : Int) - 1 ∧ r + k = n ∧ Str (aY.mk sg.2.1 sg.2.2) (B + k) (V * 2 ^ k + v / 2 ^ r)) (fun sg => (sg.1 + 1).toNat) ⟨n, 0, by simp only; rw [cr (by omega) (by omega)], by simp, by
   rw [Nat.div_eq_of_lt hv]; simp only [Nat.add_zero, Nat.pow_zero, Nat.mul_one]; rw [← hb]; exact h⟩ (by simp only; rw [cr (by omega) (by omega)]; omega) ?_
  rintro ⟨i, D, N⟩ Z ⟨r, k, hi, hrk, hs⟩ hZ
  simp only at hi hs ⊢
  subst hi
  refine Ok.cs (fun hc => ?_) fun hc => ?_
  ·have hr : 1 ≤ r := by simp at hc; omega
   have e : ((r : Int) - 1) = ((r - 1 : Nat) : Int) := by omega
   rw [e, pe (by omega)]
   refine Ok.chk (by simp) ?_
   rw [show min ((r - 1 : Nat) : Int).toNat 64 = r - 1 by omega, yF, abo (Nat.lt_of_le_of_lt (Nat.div_le_self _ _) aeU)]
   refine Ok.bnd (abL hs (Nat.mod_lt _ (by omega)) (by omega)) fun u hu => ?_
   rw [cr (by omega) (by omega)]
   refine hZ _ ⟨r - 1, k + 1, rfl, by omega, ?_⟩ (by simp only; omega)
   have e9 : (V * 2 ^ k + v / 2 ^ r) * 2 + v / 2 ^ (r - 1) % 2 = V * 2 ^ (k + 1) + v / 2 ^ (r - 1) := by
    have d1 : v / 2 ^ r = v / 2 ^ (r - 1) / 2 := by
     rw [Nat.div_div_eq_div_mul, ← Nat.pow_succ]; congr 2; omega
    rw [Nat.pow_succ, d1, Nat.add_mul, Nat.mul_assoc]
    omega
   rw [← Nat.add_assoc, ← e9]; exact hu
  ·have hr : r = 0 := by simp at hc; omega
   subst hr
   obtain rfl : k = n := by omega
   refine Ok.s ⟨by simpa using hs, rfl⟩
 ·refine Ok.cs (fun hc => by simp at hc; omega) fun _ => ?_
  refine Ok.cs (fun hc => by simp at hc; omega) fun _ => ?_
  refine Ok.cs (fun hc => ?_) fun _ => hJ _ rfl
  have hn2 : n < 64 := by simp at hc; omega
  rw [pe (by omega)]
  refine Ok.chk (by simp) (hJ _ ?_)
  rw [show min ((n : Nat) : Int).toNat 64 = n by omega, yF, Nat.div_eq_of_lt hv]; simp
theorem aaB {σ β : Type} {B B' : Int → (σ → Option β) → σ → Option β} {K K' : Int → σ → Option β} : ∀ (n : Nat) (i : Int) (s : σ), (∀ (j : Int) s Z Z', i ≤ j → j < i + n → (∀ s, Z s = Z' s) → B j Z s = B' j Z' s) → (∀ s, K (i + n) s = K' (i + n) s) → fW n i B K s = fW n i B' K' s
 | 0, i, s, _, hk => by simpa [fW] using hk s
 | n + 1, i, s, hb, hk => by
  simp only [fW]
  refine hb i s _ _ (by omega) (by omega) fun s' => ?_
  refine aaB n (i + 1) s' (fun j s Z Z' h1 h2 hz => hb j s Z Z' (by omega) (by omega) hz) fun s => ?_
  have := hk s
  rw [show i + 1 + (n : Int) = i + ((n + 1 : Nat) : Int) by omega]; exact this
theorem afL {s : aY} {i : Nat} (hb : ∀ b ∈ s.Data, 0 ≤ b ∧ b < 256) (hi : i < 8 * s.Data.length) (hl : i ≤ 100000) : ∃ x : Int, pF s (i : Int) = some x ∧ kG s.Data (i : Int) = some x := by
 have e1 : Int.tdiv (i : Int) 8 = ((i / 8 : Nat) : Int) := by rw [Int.tdiv_eq_ediv_of_nonneg (by omega)]; omega
 have e2 : Int.tmod (i : Int) 8 = ((i % 8 : Nat) : Int) := by rw [Int.tmod_eq_emod_of_nonneg (by omega)]; omega
 have e3 : (7 : Int) - ((i % 8 : Nat) : Int) = ((7 - i % 8 : Nat) : Int) := by omega
 obtain ⟨e, he, hm, _⟩ := (pJ (l := s.Data) (i := ((i / 8 : Nat) : Int)) (by omega) (by omega)).get
 have hbe := hb e hm
 have e4 : min ((7 - i % 8 : Nat) : Int).toNat 8 = 7 - i % 8 := by omega
 have hlt : e.toNat / 2 ^ (7 - i % 8) < 256 := Nat.lt_of_le_of_lt (Nat.div_le_self _ _) (by omega)
 have e5 : Int.fdiv e (2 ^ (7 - i % 8)) = ((e.toNat / 2 ^ (7 - i % 8) : Nat) : Int) := by
  rw [← yF, show ((e.toNat : Nat) : Int) = e by omega]
 refine ⟨((e.toNat / 2 ^ (7 - i % 8) % 2 : Nat) : Int), ?_, ?_⟩
 ·unfold pF
  rw [e1, e2, e3, cr (by omega) (by omega), he, aP, cr (by omega) (by omega), nE (by simp), e4, e5, aqe hlt, pe (by omega)]
 ·unfold kG
  rw [e1, e2, e3, cr (by omega) (by omega), he, aP, cr (by omega) (by omega), pe (by omega), nE (by simp), e4, e5, pe (by omega), abo (by omega)]
theorem auy (x : Int) : ∃ n : Nat, cU .and .u64 x 65535 = n ∧ n < 65536 := by
 refine ⟨(BitVec.ofInt 64 x &&& BitVec.ofInt 64 65535).toNat, ?_, ?_⟩
 ·show IntKind.wrap .u64 _ = _
  exact pe (BitVec.isLt _)
 ·rw [BitVec.toNat_and]
  exact Nat.lt_of_le_of_lt Nat.and_le_right (by decide)
theorem auz {n : Nat} (h : n < 65536) : ∃ m : Nat, cU .xor .u64 n 4129 = m ∧ m < 65536 := by
 refine ⟨n ^^^ 4129, ?_, Nat.xor_lt_two_pow (n := 16) h (by decide)⟩
 show IntKind.wrap .u64 ((BitVec.ofNat 64 n ^^^ BitVec.ofNat 64 4129).toNat : Int) = _
 rw [BitVec.toNat_xor, BitVec.toNat_ofNat, BitVec.toNat_ofNat, Nat.mod_eq_of_lt (show n < 2 ^ 64 by omega), Nat.mod_eq_of_lt (show 4129 < 2 ^ 64 by decide)]
 exact pe (Nat.lt_trans (Nat.xor_lt_two_pow (n := 16) h (by decide)) (by decide))
theorem aeV {s : aY} {B V : Nat} (h : Str s B V) (hB : B ≤ 8192) : ∃ c : Nat, c < 65536 ∧ lB s = some ((c : Int), 0) ∧ iI s = some ((c : Int), 0) := by
 have hle := h.r.le; have ht := h.t; have hb := h.b
 have key : lB s = iI s := by
  unfold lB iI
  rw [y5 h hB, sx h hB]
  simp only [aP, Bool.not_true, cond_false]
  congr 1
  refine aaB _ _ _ ?_ fun s => rfl
  intro j r Z Z' h1 h2 hz
  obtain ⟨x, hx1, hx2⟩ := afL (s := s) (i := j.toNat) h.r.by_ (by omega) (by omega)
  rw [show ((j.toNat : Nat) : Int) = j by omega] at hx1 hx2
  simp only [jn, hx1, hx2, aP, hz]
  by_cases hc : Int.fdiv r (2 ^ min (15 : Int).toNat 64) = x <;> simp [hc]
 rw [key]
 have : Ok (iI s) (fun p => ∃ c : Nat, c < 65536 ∧ p = ((c : Int), 0)) := by
  unfold iI
  rw [sx h hB, aP]
  simp only [Bool.not_true, cond_false]
  refine Ok.chk (by simp; omega) ?_
  refine Ok.fW (fun _ (r : Int) => ∃ c : Nat, c < 65536 ∧ r = c) 0 s.Bits ?_ ?_ _ _ _ (by simp) (by omega) (by omega) ⟨65535, by decide, rfl⟩
  ·rintro i r Z h1 h2 ⟨c, hc, rfl⟩ hZ
   refine Ok.jn (fun r => ∃ c : Nat, c < 65536 ∧ r = c) (fun r hr => hZ _ hr) fun J hJ => ?_
   obtain ⟨x, hx1, hx2⟩ := afL (s := s) (i := i.toNat) h.r.by_ (by omega) (by omega)
   rw [show ((i.toNat : Nat) : Int) = i by omega] at hx2
   rw [hx2, aP]
   obtain ⟨n, hn, hn2⟩ := auy (IntKind.wrap .u64 ((c : Int) * 2 ^ min (1 : Int).toNat 64))
   rw [hn]
   refine Ok.cs (fun _ => ?_) fun _ => hJ _ ⟨n, hn2, rfl⟩
   obtain ⟨m, hm, hm2⟩ := auz hn2
   rw [hm]
   exact hJ _ ⟨m, hm2, rfl⟩
  ·rintro i r h1 h2 ⟨c, hc, rfl⟩
   exact Ok.s ⟨c, hc, rfl⟩
 obtain ⟨_, hp, c, hc, rfl⟩ := this
 exact ⟨c, hc, hp, hp⟩
/-- one field more, by both -/
theorem aiv {s : aY} {B V v n : Nat} (h : Str s B V) (hn : n ≤ 64) (hv : v < 2 ^ n) (hB : B + n ≤ 8192) : ∃ u, bT (bL.mk s) v n = some (bL.mk u) ∧ de s v n = some u ∧ Str u (B + n) (V * 2 ^ n + v) := by
 have aeU : v < 2 ^ 64 := Nat.lt_of_lt_of_le hv (Nat.pow_le_pow_right (by decide) hn)
 obtain ⟨p, hp, hs, _⟩ := ac5 h hn hv hB
 obtain ⟨q, hq, ht, _⟩ := ac7 h hn hv hB
 have e := hs.unique ht
 refine ⟨p.1, ?_, ?_, hs⟩
 ·unfold bT
  rw [pe (by omega), hp]; rfl
 ·unfold de
  rw [pe (by omega), hq, e]; rfl
/-- two loops side by side, through the same states -/
theorem abM {α σ β γ : Type} {B1 : Int → α → (σ → Option β) → σ → Option β} {B2 : Int → α → (σ → Option γ) → σ → Option γ} {L : List α} (I : Nat → σ → Prop)
  (hc : ∀ (j : Nat) x s, L[j]? = some x → I j s → ∃ s', I (j + 1) s' ∧ (∀ Z, B1 (j : Int) x Z s = Z s') ∧ ∀ Z, B2 (j : Int) x Z s = Z s') (s : σ) (h : I 0 s) :
  ∃ s', I L.length s' ∧ (∀ K, bO L 0 B1 K s = K s') ∧ ∀ K, bO L 0 B2 K s = K s' := by
 have key : ∀ (l p : List α) (s : σ), L = p ++ l → I p.length s → ∃ s', I L.length s' ∧ (∀ K, bO l p.length B1 K s = K s') ∧ ∀ K, bO l p.length B2 K s = K s' := by
  intro l
  induction l with
  | nil => intro p s hj h; rw [List.append_nil] at hj; subst hj; exact ⟨s, h, fun _ => rfl, fun _ => rfl⟩
  | cons x r ih =>
   intro p s hj h
   obtain ⟨s1, h1, e1, e2⟩ := hc p.length x s (by rw [hj]; simp) h
   obtain ⟨s2, h2, e3, e4⟩ := ih (p ++ [x]) s1 (by simp [hj]) (by simpa using h1)
   simp only [List.length_append, List.length_cons, List.length_nil] at e3 e4
   exact ⟨s2, h2, fun K => by simp only [bO]; rw [e1]; exact e3 K, fun K => by simp only [bO]; rw [e2]; exact e4 K⟩
 exact key L [] s rfl h
/-- fields, one behind the other -/
def xZ : Nat → List (Nat × Nat) → Nat
 | a, [] => a
 | a, (v, w) :: r => xZ (a * 2 ^ w + v) r
def r9 : List (Nat × Nat) → Nat
 | [] => 0
 | (_, w) :: r => w + r9 r
theorem uD : ∀ (a : Nat) (F G : List (Nat × Nat)), xZ a (F ++ G) = xZ (xZ a F) G
 | _, [], _ => rfl
 | a, (v, w) :: r, G => uD _ r G
theorem si : ∀ (F G : List (Nat × Nat)), r9 (F ++ G) = r9 F + r9 G
 | [], G => by simp [r9]
 | (v, w) :: r, G => by simp only [List.cons_append, r9, si r G]; omega
def yG (l : Int) : Nat := if l = 8 then 0 else if l = 16 then 1 else if l = 32 then 2 else 3
theorem aeW {l : Int} (h : ql l = true) : oG l = some (yG l : Int) := by
 simp only [ql, Bool.or_eq_true, decide_eq_true_eq] at h
 rcases h with rfl | rfl | rfl | rfl <;> decide +kernel
theorem pN {σ β : Type} (F : (σ → Option β) → σ → Option β) (n : Nat) (s : σ) : iter F (n + 1) s = F (iter F n) s := rfl
theorem afM {β : Type} {l : Int} (h : ql l = true) (R : Int → Option β) : whl (fun (Z : Int → Option β) (c : Int) => chk (decide (0 ≤ c)) <| bif decide (IntKind.wrap .i64 ((8 : Int) * 2 ^ min c.toNat 64) < l) then Z (w64 (c + 1)) else R c) 0 = R (yG l : Int) := by
 simp only [ql, Bool.or_eq_true, decide_eq_true_eq] at h
 show iter _ (1099511627772 + 4) 0 = _
 have e1 : w64 (0 + 1) = 1 := by decide
 have e2 : w64 (1 + 1) = 2 := by decide
 have e3 : w64 (2 + 1) = 3 := by decide
 have p0 : IntKind.wrap .i64 ((8 : Int) * 2 ^ min (0 : Int).toNat 64) = 8 := by decide
 have p1 : IntKind.wrap .i64 ((8 : Int) * 2 ^ min (1 : Int).toNat 64) = 16 := by decide
 have p2 : IntKind.wrap .i64 ((8 : Int) * 2 ^ min (2 : Int).toNat 64) = 32 := by decide
 have p3 : IntKind.wrap .i64 ((8 : Int) * 2 ^ min (3 : Int).toNat 64) = 64 := by decide
 rcases h with rfl | rfl | rfl | rfl
 ·rw [pN, nE (by decide), p0]; rfl
 ·rw [pN, nE (by decide), p0, e1]
  simp only [show decide ((8 : Int) < 16) = true from rfl, cond_true]
  rw [pN, nE (by decide), p1]; rfl
 ·rw [pN, nE (by decide), p0, e1]
  simp only [show decide ((8 : Int) < 32) = true from rfl, cond_true]
  rw [pN, nE (by decide), p1, e2]
  simp only [show decide ((16 : Int) < 32) = true from rfl, cond_true]
  rw [pN, nE (by decide), p2]; rfl
 ·rw [pN, nE (by decide), p0, e1]
  simp only [show decide ((8 : Int) < 64) = true from rfl, cond_true]
  rw [pN, nE (by decide), p1, e2]
  simp only [show decide ((16 : Int) < 64) = true from rfl, cond_true]
  rw [pN, nE (by decide), p2, e3]
  simp only [show decide ((32 : Int) < 64) = true from rfl, cond_true]
  rw [pN, nE (by decide), p3]; rfl
theorem td {s : aY} {B V n : Nat} {v : Int} (h : Str s B V) (h0 : 0 ≤ v) (hn : n ≤ 64) (hv : v < 2 ^ n) (hB : B + n ≤ 8192) : ∃ u, bT (bL.mk s) v n = some (bL.mk u) ∧ de s v n = some u ∧ Str u (B + n) (V * 2 ^ n + v.toNat) := by
 have hv' : v.toNat < 2 ^ n := by
  have : ((2 : Int) ^ n) = ((2 ^ n : Nat) : Int) := by push_cast; rfl
  omega
 obtain ⟨u, h1, h2, h3⟩ := aiv h hn hv' hB
 rw [show ((v.toNat : Nat) : Int) = v by omega] at h1 h2
 exact ⟨u, h1, h2, h3⟩
theorem afN {s : aY} {B V : Nat} (h : Str s B V) (hB : B + 8 ≤ 8192) : Ok (nO s) (fun p => p.1.Data = s.Data) := by
 unfold nO
 rw [sx h (by omega), aP]
 simp only [Bool.not_true, cond_false]
 have hle := h.r.le; have ht := h.t
 refine Ok.whl (fun sg : List Int × Int => ∃ k : Nat, B + k ≤ 8 * s.Data.length ∧ sg.1 = s.Data ∧ Str (aY.mk sg.1 sg.2) (B + k) (V * 2 ^ k)) (fun sg => ((8 * s.Data.length : Nat) - sg.2).toNat) ⟨0, by omega, rfl, by simpa using h⟩ (by simp only; rw [h.b]; omega) ?_
 rintro ⟨D, N⟩ Z ⟨k, hk, hD, hs⟩ hZ
 simp only at hD hs ⊢
 have hN : N = ((B + k : Nat) : Int) := hs.b
 subst hD
 have e2 : Int.tmod N 8 = (((B + k) % 8 : Nat) : Int) := by rw [hN, Int.tmod_eq_emod_of_nonneg (by omega)]; omega
 rw [e2]
 refine Ok.cs (fun hc => ?_) fun _ => Ok.s rfl
 have hm : (B + k) % 8 ≠ 0 := by simp at hc; omega
 obtain ⟨u, hu, hus⟩ := (abL (b := 0) hs (by omega) (by omega)).get
 have huD : u.Data = s.Data := by
  have hx : SR s.Data (B + k + 1) (V * 2 ^ k * 2) := by
   refine ⟨h.r.by_, by omega, by omega, ?_⟩
   have e : 2 ^ (8 * s.Data.length - B) = 2 ^ k * 2 * 2 ^ (8 * s.Data.length - (B + k + 1)) := by
    rw [← Nat.pow_succ, ← Nat.pow_add]; congr 1; omega
   rw [h.r.num, e]; simp only [Nat.mul_assoc]
  exact hus.r.unique hx hus.t (by omega)
 refine Ok.bnd (P := fun x => x = u) ⟨u, hu, rfl⟩ ?_
 rintro _ rfl
 refine hZ _ ⟨k + 1, by omega, huD, ?_⟩ (by simp only; rw [hus.b, hN]; omega)
 rw [← Nat.add_assoc, Nat.pow_succ, ← Nat.mul_assoc]; exact hus
theorem aqh {β : Type} (c : Bool) (K : Int → Option β) : jn K (fun J => bif c then J 1 else J 0) = K (bif c then 1 else 0) := by cases c <;> rfl
def tM (x : bu) : List (Nat × Nat) := [(x.bw.toNat, 7), (x.lY.toNat, 10), (x.bY.toNat, 10)]
def yH (x : bz) : List (Nat × Nat) := [(x.cc.toNat, 3), (x.ID.toNat, 9), (yG x.Length, 2)]
def aaC (a : ak) : List (Nat × Nat) := [(a.aq.toNat, 7), (a.Seq.toNat, 20), ((bif a.aW then 1 else 0), 1), (a.Links.length, 5)]
def ab7 (a : ak) : List (Nat × Nat) := (aaC a ++ a.Links.flatMap tM) ++ (a.Claims.length, 4) :: a.Claims.flatMap yH
theorem abN {α : Type} {l : List α} {j : Nat} {x : α} (h : l[j]? = some x) : l.take (j + 1) = l.take j ++ [x] := by
 obtain ⟨h1, rfl⟩ := List.getElem?_eq_some_iff.1 h
 rw [List.take_succ_eq_append_getElem h1]
theorem ajV : ∀ l : List bu, r9 (l.flatMap tM) = 27 * l.length
 | [] => rfl
 | x :: l => by rw [List.flatMap_cons, si, ajV l, List.length_cons]; simp only [tM, r9]; omega
theorem ajW : ∀ l : List bz, r9 (l.flatMap yH) = 14 * l.length
 | [] => rfl
 | x :: l => by rw [List.flatMap_cons, si, ajW l, List.length_cons]; simp only [yH, r9]; omega
/-- what an vS is written as -/
theorem aiw {a : ak} (h : cu a = true) : ∃ l c, eB a = some (l, 0) ∧ hU a = some (l, 0) ∧ c < 65536 ∧ SR l (r9 (ab7 a ++ [(c, 16)])) (xZ 0 (ab7 a ++ [(c, 16)])) := by
 have hv := ab6 h
 have hb := h
 simp only [cu, inB, Bool.and_eq_true, decide_eq_true_eq, List.all_eq_true] at hb
 obtain ⟨⟨⟨⟨⟨r1, r2⟩, ⟨q1, q2⟩⟩, l1⟩, ⟨gl, _⟩⟩, ⟨c1, gc, _⟩⟩ := hb
 unfold eB hU
 rw [rZ, pM, h]
 obtain ⟨s1, a1, b1, t1⟩ := td (v := a.aq) (n := 7) Str.nil (by omega) (by omega) (by omega) (by omega)
 obtain ⟨s2, a2, b2, t2⟩ := td (v := a.Seq) (n := 20) t1 (by omega) (by omega) (by omega) (by omega)
 rw [show ((7 : Nat) : Int) = 7 from rfl] at a1 b1
 rw [show ((20 : Nat) : Int) = 20 from rfl] at a2 b2
 simp only [a1, b1, a2, b2, aP, Bool.not_true, cond_false, aqh]
 have hcp : (0 ≤ (bif a.aW then (1 : Int) else 0) ∧ (bif a.aW then (1 : Int) else 0) < 2) ∧ (bif a.aW then (1 : Int) else 0).toNat = (bif a.aW then 1 else 0) := by cases a.aW <;> decide
 generalize (bif a.aW then (1 : Int) else 0) = cp at hcp ⊢
 obtain ⟨hcp, hcpn⟩ := hcp
 obtain ⟨s3, a3, b3, t3⟩ := td (v := cp) (n := 1) t2 (by omega) (by omega) (by omega) (by omega)
 obtain ⟨s4, a4, b4, t4⟩ := td (v := (a.Links.length : Int)) (n := 5) t3 (by omega) (by omega) (by omega) (by omega)
 rw [show ((1 : Nat) : Int) = 1 from rfl] at a3 b3
 rw [show ((5 : Nat) : Int) = 5 from rfl] at a4 b4
 simp only [a3, b3, a4, b4, aP]
 obtain ⟨⟨D1, N1⟩, t5, e1, e2⟩ := abM (L := a.Links)
  (B1 := fun (j1 : Int) (e1 : bu) (Z1 : ((List Int) × Int) → Option (List Int × Int)) (sg : (List Int) × Int) => bnd (bT (bL.mk (aY.mk sg.1 sg.2)) e1.bw (7:Int)) fun (bR : bL) => bnd (bT bR e1.lY (10:Int)) fun (cG : bL) => bnd (bT cG e1.bY (10:Int)) fun (cQ : bL) => Z1 (cQ.s_.Data, cQ.s_.Bits))
  (B2 := fun (j1 : Int) (e1 : bu) (Z1 : ((List Int) × Int) → Option (List Int × Int)) (sg : (List Int) × Int) => bnd (de (aY.mk sg.1 sg.2) e1.bw (7:Int)) fun (bR : aY) => bnd (de bR e1.lY (10:Int)) fun (cG : aY) => bnd (de cG e1.bY (10:Int)) fun (cQ : aY) => Z1 (cQ.Data, cQ.Bits))
  (fun j sg => Str (aY.mk sg.1 sg.2) (33 + 27 * j) (xZ 0 (aaC a ++ (a.Links.take j).flatMap tM))) (by
   rintro j x ⟨D, N⟩ hx t
   have hj : j < a.Links.length := (List.getElem?_eq_some_iff.1 hx).1
   have g := gl x (List.mem_of_getElem? hx)
   simp only [kU, inB, Bool.and_eq_true, decide_eq_true_eq] at g
   obtain ⟨u1, c1, d1, f1⟩ := td (v := x.bw) (n := 7) t (by omega) (by omega) (by omega) (by omega)
   obtain ⟨u2, c2, d2, f2⟩ := td (v := x.lY) (n := 10) f1 (by omega) (by omega) (by omega) (by omega)
   obtain ⟨u3, c3, d3, f3⟩ := td (v := x.bY) (n := 10) f2 (by omega) (by omega) (by omega) (by omega)
   rw [show ((7 : Nat) : Int) = 7 from rfl] at c1 d1
   rw [show ((10 : Nat) : Int) = 10 from rfl] at c2 d2 c3 d3
   refine ⟨(u3.Data, u3.Bits), ?_, fun Z => ?_, fun Z => ?_⟩
   ·rw [show 33 + 27 * (j + 1) = 33 + 27 * j + 7 + 10 + 10 by omega, abN hx, List.flatMap_append, ← List.append_assoc, uD]
    exact f3
   ·simp only [c1, c2, c3, aP]
   ·simp only [d1, d2, d3, aP]) (s4.Data, s4.Bits) (by
   have : xZ 0 (aaC a ++ (a.Links.take 0).flatMap tM) = (((0 * 2 ^ 7 + a.aq.toNat) * 2 ^ 20 + a.Seq.toNat) * 2 ^ 1 + cp.toNat) * 2 ^ 5 + a.Links.length := by rw [hcpn]; rfl
   rw [this]; exact t4)
 rw [e1, e2]
 simp only [List.take_length] at t5 ⊢
 obtain ⟨s6, a6, b6, t6⟩ := td (v := (a.Claims.length : Int)) (n := 4) t5 (by omega) (by omega) (by omega) (by omega)
 rw [show ((4 : Nat) : Int) = 4 from rfl] at a6 b6
 simp only [a6, b6, aP]
 obtain ⟨⟨D2, N2⟩, t7, e3, e4⟩ := abM (L := a.Claims)
  (B1 := fun (j2 : Int) (e2 : bz) (Z2 : ((List Int) × Int) → Option (List Int × Int)) (sg : (List Int) × Int) => whl (fun (Z3 : Int → Option (List Int × Int)) (jy : Int) => chk (decide (0 ≤ jy)) <| bif decide (IntKind.wrap .i64 ((8:Int) * 2 ^ min jy.toNat 64) < e2.Length) then Z3 (w64 (jy + (1:Int))) else bnd (bT (bL.mk (aY.mk sg.1 sg.2)) e2.cc (3:Int)) fun (bN : bL) => bnd (bT bN e2.ID (9:Int)) fun (dI : bL) => bnd (bT dI jy (2:Int)) fun (bZ : bL) => Z2 (bZ.s_.Data, bZ.s_.Bits)) (0:Int))
  (B2 := fun (j2 : Int) (e2 : bz) (Z2 : ((List Int) × Int) → Option (List Int × Int)) (sg : (List Int) × Int) => bnd (de (aY.mk sg.1 sg.2) e2.cc (3:Int)) fun (bN : aY) => bnd (de bN e2.ID (9:Int)) fun (dI : aY) => bnd (oG e2.Length) fun (bZ : Int) => bnd (de dI bZ (2:Int)) fun (fN : aY) => Z2 (fN.Data, fN.Bits))
  (fun j sg => Str (aY.mk sg.1 sg.2) (37 + 27 * a.Links.length + 14 * j) (xZ 0 ((aaC a ++ a.Links.flatMap tM) ++ (a.Claims.length, 4) :: (a.Claims.take j).flatMap yH))) (by
   rintro j x ⟨D, N⟩ hx t
   have hj : j < a.Claims.length := (List.getElem?_eq_some_iff.1 hx).1
   have g := gc x (List.mem_of_getElem? hx)
   simp only [ko, inB, Bool.and_eq_true, decide_eq_true_eq] at g
   have hcd : yG x.Length < 4 := by unfold yG; split; omega; split; omega; split <;> omega
   obtain ⟨u1, c1, d1, f1⟩ := td (v := x.cc) (n := 3) t (by omega) (by omega) (by omega) (by omega)
   obtain ⟨u2, c2, d2, f2⟩ := td (v := x.ID) (n := 9) f1 (by omega) (by omega) (by omega) (by omega)
   obtain ⟨u3, c3, d3, f3⟩ := td (v := (yG x.Length : Int)) (n := 2) f2 (by omega) (by omega) (by omega) (by omega)
   rw [show ((3 : Nat) : Int) = 3 from rfl] at c1 d1
   rw [show ((9 : Nat) : Int) = 9 from rfl] at c2 d2
   rw [show ((2 : Nat) : Int) = 2 from rfl] at c3 d3
   refine ⟨(u3.Data, u3.Bits), ?_, fun Z => ?_, fun Z => ?_⟩
   ·rw [show 37 + 27 * a.Links.length + 14 * (j + 1) = 37 + 27 * a.Links.length + 14 * j + 3 + 9 + 2 by omega, abN hx, List.flatMap_append, ← List.cons_append, ← List.append_assoc, uD]
    exact f3
   ·simp only
    rw [afM g.2]
    simp only [c1, c2, c3, aP]
   ·simp only [d1, d2, d3, aP, aeW g.2]) (s6.Data, s6.Bits) (by
    rw [show 37 + 27 * a.Links.length + 14 * 0 = 33 + 27 * a.Links.length + 4 by omega, uD]; exact t6)
 rw [e3, e4]
 simp only [List.take_length] at t7 ⊢
 obtain ⟨c, hc, k1, k2⟩ := aeV t7 (by omega)
 simp only [k1, k2, aP]
 rw [cr (by omega) (by omega)]
 obtain ⟨s8, a8, b8, t8⟩ := td (v := (c : Int)) (n := 16) t7 (by omega) (by omega) (by omega) (by omega)
 rw [show ((16 : Nat) : Int) = 16 from rfl] at a8 b8
 simp only [a8, b8, aP]
 obtain ⟨p, hp, hd⟩ := afN t8 (by omega)
 rw [hp, aP, hd]
 have hw : r9 (ab7 a ++ [(c, 16)]) = 37 + 27 * a.Links.length + 14 * a.Claims.length + 16 := by
  rw [si, ab7, si, si, ajV]
  simp only [r9, ajW, aaC]; omega
 refine ⟨_, c, rfl, rfl, hc, ?_⟩
 rw [hw, uD]
 exact t8.r
theorem ac8 {a : ak} (h : cu a = true) : ∃ l, eB a = some (l, 0) ∧ hU a = some (l, 0) := by
 obtain ⟨l, c, h1, h2, _⟩ := aiw h
 exact ⟨l, h1, h2⟩
end Go.Proofs.YtpmifmdidfgpdaaGreat

/- Plain: auA vQ, Put, by both. No condition but bU bB stand in each. -/
namespace Go.Proofs.YtpmifmdidfgpdaaGreat
set_option linter.all false
open Go
def sU (l : List Int) : List UInt8 := l.map fun n => UInt8.ofNat n.toNat
def zV (a : ak) : List Int := match eB a with | some p => p.1 | none => []
def aix (a b : ak) : Bool := decide (b.Seq < a.Seq) || (decide (a.Seq = b.Seq) && decide (0 < qm (sU (zV a)) (sU (zV b))))
def rI (a b : ak) : Bool := cu a && (cu b && (decide (a.aq = b.aq) && aix a b))
theorem am0 {a : ak} (h : cu a = true) : eB a = some (zV a, 0) := by
 obtain ⟨l, h1, h2⟩ := ac8 h
 unfold zV; rw [h1]
theorem ac9 {a : ak} (h : cu a = true) : hU a = some (zV a, 0) := by
 obtain ⟨l, h1, h2⟩ := ac8 h
 unfold zV; rw [h1, h2]
theorem aiy (x y : List Int) : ug .gtr (iw x) (iw y) = decide (0 < qm (sU x) (sU y)) := by
 show (!(Go.Op.bytesLess (iw x).toList (iw y).toList || (iw x).toList == (iw y).toList)) = _
 rw [Lib.toList_data, Lib.toList_data]
 exact afK (sU x) (sU y)
theorem am1 (x y : List Int) : apU x y = qm (sU x) (sU y) := aiu _ _
theorem adw (a b : ak) : nP a b = some (rI a b) := by
 unfold nP rI
 simp only [jn, pM, aP]
 cases ha : cu a
 ·simp
 cases hb : cu b
 ·simp
 by_cases hr : a.aq = b.aq
 ·simp only [hr, Bool.not_true, cond_false, decide_true, ac9 ha, ac9 hb, aP, aiy, aix, Bool.true_and]
 ·simp [hr]
theorem aiz (a b : ak) : mM a b = some (rI a b) := by
 unfold mM rI
 have hx : ∀ a, ∃ p, eB a = some p ∧ (cu a = true → p = (zV a, 0)) ∧ (cu a = false → p.2 = 1) := fun a => by
  cases h : cu a
  ·refine ⟨([], 1), ?_, fun h => by simp at h, fun _ => rfl⟩
   unfold eB; rw [rZ, h]; rfl
  ·exact ⟨_, am0 h, fun _ => rfl, fun h => by simp at h⟩
 obtain ⟨p, hp, hp1, hp2⟩ := hx a
 obtain ⟨q, hq, hq1, hq2⟩ := hx b
 simp only [hp, hq, aP]
 cases ha : cu a
 ·simp [hp2 ha]
 cases hb : cu b
 ·simp [hq2 hb]
 rw [hp1 ha, hq1 hb]
 by_cases hr : a.aq = b.aq
 ·simp only [hr, decide_true, Bool.not_true, Bool.or_self, cond_false, Bool.true_and, aix]
  by_cases h1 : b.Seq < a.Seq
  ·simp [h1]
  ·by_cases h2 : a.Seq = b.Seq
   ·simp only [h2, decide_true, cond_true, rA, aP, am1]; simp
   ·simp [h1, h2]
 ·simp [hr]
/-! With -/
def ltR (r : Int) (l : List ak) : List ak := l.filter fun x => decide (x.aq < r)
def gtR (r : Int) (l : List ak) : List ak := l.filter fun x => decide (r < x.aq)
def tH (d : aD) (a : ak) : aD := aD.mk (ltR a.aq d.az ++ a :: gtR a.aq d.az)
theorem yI (r : Int) (l m : List ak) : ltR r (l ++ m) = ltR r l ++ ltR r m := List.filter_append ..
theorem yJ (r : Int) (l m : List ak) : gtR r (l ++ m) = gtR r l ++ gtR r m := List.filter_append ..
theorem yK {r : Int} {l : List ak} (h : ∀ x ∈ l, x.aq < r) : ltR r l = l := List.filter_eq_self.2 fun x hx => by simpa using h x hx
theorem wO {r : Int} {l : List ak} (h : ∀ x ∈ l, r ≤ x.aq) : ltR r l = [] := List.filter_eq_nil_iff.2 fun x hx => by simpa using h x hx
theorem abp {r : Int} {l : List ak} (h : ∀ x ∈ l, r < x.aq) : gtR r l = l := List.filter_eq_self.2 fun x hx => by simpa using h x hx
theorem uE {r : Int} {l : List ak} (h : ∀ x ∈ l, x.aq ≤ r) : gtR r l = [] := List.filter_eq_nil_iff.2 fun x hx => by simpa using h x hx
def wP (d : aD) : Prop := d.az.Pairwise (fun a b => a.aq < b.aq)
theorem aaD {d : aD} (hd : wP d) (hl : d.az.length ≤ 100000) (a : ak) : oH d a = some (tH d a) := by
 refine Ok.eq ?_
 unfold oH
 refine Ok.qk (fun P (sg : Bool × List ak) => (sg.1 = false → (∀ x ∈ P, x.aq < a.aq) ∧ sg.2 = P) ∧ (sg.1 = true → (∃ x ∈ P, a.aq ≤ x.aq) ∧ sg.2 = ltR a.aq P ++ a :: gtR a.aq P) ∧ sg.2.length ≤ P.length + 1) ?_ _ ⟨fun _ => ⟨by simp, rfl⟩, fun h => by simp at h, by simp⟩ ?_
 ·rintro P e rest ⟨dn, m⟩ Z hL ⟨h1, h2, h3⟩ hZ
  simp only at h1 h2 h3 ⊢
  have hP : P.length < d.az.length := by rw [hL]; simp
  have aiA : ∀ x ∈ P, x.aq < e.aq := fun x hx => by
   have := hd; unfold wP at this; rw [hL] at this
   exact (List.pairwise_append.1 this).2.2 x hx e (by simp)
  simp only [jn]
  cases hdn : dn
  ·obtain ⟨g1, rfl⟩ := h1 hdn
   subst hdn
   by_cases hr : a.aq ≤ e.aq
   ·simp only [hr, decide_true, Bool.not_false, Bool.and_self, cond_true]
    rw [dJ (by simp; omega), aP]
    by_cases he : e.aq = a.aq
    ·simp only [he, decide_true, Bool.not_true, cond_false]
     refine hZ _ ⟨fun h => by simp at h, fun _ => ⟨⟨e, by simp, hr⟩, ?_⟩, by simp <;> omega⟩
     rw [yI, yJ, yK g1, uE (l := m) (fun x hx => by have := g1 x hx; omega), wO (l := [e]) (by simp; omega), uE (l := [e]) (by simp; omega)]
     simp
    ·simp only [he, decide_false, Bool.not_false, cond_true]
     rw [dJ (by simp; omega), aP]
     refine hZ _ ⟨fun h => by simp at h, fun _ => ⟨⟨e, by simp, hr⟩, ?_⟩, by simp <;> omega⟩
     rw [yI, yJ, yK g1, uE (l := m) (fun x hx => by have := g1 x hx; omega), wO (l := [e]) (by simp; omega), abp (l := [e]) (by simp; omega)]
     simp
   ·have he : e.aq ≠ a.aq := by omega
    simp only [hr, decide_false, Bool.and_false, cond_false, he, Bool.not_false, cond_true]
    rw [dJ (by simp; omega), aP]
    refine hZ _ ⟨fun _ => ⟨?_, rfl⟩, fun h => by simp at h, by simp <;> omega⟩
    intro x hx
    rcases List.mem_append.1 hx with hx | hx
    ·exact g1 x hx
    ·simp at hx; subst hx; omega
  ·subst hdn
   obtain ⟨⟨x, hx, hxr⟩, hm⟩ := h2 rfl
   have her : a.aq < e.aq := by have := aiA x hx; omega
   have he : e.aq ≠ a.aq := by omega
   simp only [Bool.not_true, Bool.false_and, cond_false, he, decide_false, Bool.not_false, cond_true]
   rw [dJ (by simp; omega), aP]
   refine hZ _ ⟨fun h => by simp at h, fun _ => ⟨⟨x, by simp [hx], hxr⟩, ?_⟩, by simp <;> omega⟩
   rw [yI, yJ, wO (l := [e]) (by simp; omega), abp (l := [e]) (by simp; omega), hm]
   simp
 ·rintro ⟨dn, m⟩ ⟨h1, h2, h3⟩
  simp only at h1 h2 h3 ⊢
  simp only [jn]
  unfold tH
  cases dn
  ·obtain ⟨g1, rfl⟩ := h1 rfl
   simp only [Bool.not_false, cond_true]
   rw [dJ (by simp; omega), aP]
   exact Ok.s (by rw [yK g1, uE (fun x hx => by have := g1 x hx; omega)])
  ·obtain ⟨_, hm⟩ := h2 rfl
   exact Ok.s (by rw [hm])
/-! Put -/
def tg (d : aD) (a : ak) : aD × Bool :=
 bif (ig d a.aq).2 && !rI a (ig d a.aq).1 then (d, false) else (tH d a, true)
theorem abO (d : aD) (a : ak) : nX d a = some (if dbC d = 0 ∧ cu a = true then tg d a else (d, false)) := by
 unfold nX
 simp only [jn, su, pM, aaA, aP]
 by_cases h : dbC d = 0
 ·cases hv : cu a
  ·simp [h]
  ·have hd := jW.1 h
   simp only [h, decide_true, Bool.not_true, cond_false, and_self, if_true, tg]
   cases hf : (ig d a.aq).2
   ·simp only [cond_false, Bool.false_and]
    rw [aaD hd.asc (by have := hd.n; omega), aP]
   ·simp only [cond_true, adw, aP, Bool.true_and]
    cases rI a (ig d a.aq).1
    ·rfl
    ·simp only [Bool.not_true, cond_false]
     rw [aaD hd.asc (by have := hd.n; omega), aP]
 ·simp [h]
theorem bsAd (l : List ak) (x : Int) (c : ak → Int → Option Int) (f : ak → Int) (hl : l.length ≤ 1000000) (hc : ∀ r, c r x = some (f r)) : cC l x c = some ((bsR f l : Int), bsT f l) := by
 unfold cC
 refine abc l f hl fun i j Z hj => ?_
 by_cases hij : i < j
 ·rw [dif_pos hij]
  simp only [abb (i := i) (j := j) (by omega), sR (show (i + j) / 2 < l.length by omega), aP, hc, nT]
  rw [if_pos (by omega), cr (by omega) (by omega)]
  rfl
 ·rw [dif_neg hij]
  simp only [nT]
  rw [if_neg (by omega)]
  by_cases hi : i < l.length
  ·rw [if_pos (by omega), sR hi]; simp only [aP, hc]; simp [hi]
  ·rw [if_neg (by omega)]; simp [hi]
theorem am2 (x : ak) (r : Int) : kM x r = some (dY x.aq r) := by
 unfold kM; rw [aa9, aP]
theorem zW (x y : Int) : (dY x y < 0 ↔ x < y) ∧ (dY x y = 0 ↔ x = y) := by
 unfold dY; split
 ·exact ⟨by omega, by omega⟩
 ·split
  ·exact ⟨by omega, by omega⟩
  ·exact ⟨by omega, by omega⟩
theorem adV {d : aD} (hd : wP d) (r : Int) : ∀ a b : Nat, a ≤ b → b < d.az.length → dY (el d.az a).aq r ≤ dY (el d.az b).aq r :=
 qj (f := fun x : ak => dY x.aq r) (hd.imp fun h => by
  unfold dY; split <;> split <;> (try split) <;> (try split) <;> omega)
/-- the place of a aL -/
theorem aiB {d : aD} (hd : wP d) (r : Int) : d.az.take (bsR (fun x : ak => dY x.aq r) d.az) = ltR r d.az ∧
  (bsT (fun x : ak => dY x.aq r) d.az = (ig d r).2) ∧ bsR (fun x : ak => dY x.aq r) d.az ≤ d.az.length ∧
  ((ig d r).2 = false → d.az.drop (bsR (fun x : ak => dY x.aq r) d.az) = gtR r d.az) ∧
  ((ig d r).2 = true → d.az.drop (bsR (fun x : ak => dY x.aq r) d.az) = (ig d r).1 :: gtR r d.az) := by
 obtain ⟨h1, h2, h3⟩ := acV (f := fun x : ak => dY x.aq r) (adV hd r)
 have hT := abd (f := fun x : ak => dY x.aq r) (adV hd r)
 generalize bsR (fun x : ak => dY x.aq r) d.az = n at h1 h2 h3 ⊢
 have ht : ∀ x ∈ d.az.take n, x.aq < r := fun x hx => by
  obtain ⟨i, hi, rfl⟩ := List.getElem_of_mem hx
  rw [List.length_take] at hi
  have := h2 i (by omega)
  rw [uz (by omega)] at this
  rw [List.getElem_take]
  exact (zW _ _).1.1 this
 have hg : ∀ x ∈ d.az.drop n, r ≤ x.aq := fun x hx => by
  obtain ⟨i, hi, rfl⟩ := List.getElem_of_mem hx
  rw [List.length_drop] at hi
  have := h3 (n + i) (by omega) (by omega)
  rw [uz (by omega)] at this
  rw [List.getElem_drop]
  have q := (zW (d.az[n + i]).aq r).1
  have q2 : ¬ dY (d.az[n + i]).aq r < 0 := by omega
  rw [q] at q2; omega
 have hs := List.take_append_drop n d.az
 have e1 : ltR r d.az = d.az.take n := by
  conv => lhs; rw [← hs]
  rw [yI, yK ht, wO hg, List.append_nil]
 have e2 : gtR r d.az = gtR r (d.az.drop n) := by
  conv => lhs; rw [← hs]
  rw [yJ, uE (l := d.az.take n) (fun x hx => by have := ht x hx; omega), List.nil_append]
 have e3 : bsT (fun x : ak => dY x.aq r) d.az = (ig d r).2 := by
  rw [Bool.eq_iff_iff, hT]
  simp only [(zW _ _).2]
  rcases rH d r with ⟨a, ha, he, hf⟩ | ⟨hn, hf⟩
  ·rw [hf]; exact ⟨fun _ => rfl, fun _ => ⟨a, ha, he⟩⟩
  ·rw [hf]; exact ⟨fun ⟨a, ha, he⟩ => absurd he (hn a ha), fun h => by simp at h⟩
 refine ⟨e1.symm, e3, h1, fun hf => ?_, fun hf => ?_⟩
 ·rw [e2, abp]
  intro x hx
  rcases rH d r with ⟨a, ha, he, hf2⟩ | ⟨hn, hf2⟩
  ·rw [hf2] at hf; simp at hf
  ·have := hg x hx; have := hn x (List.mem_of_mem_drop hx); omega
 ·rcases rH d r with ⟨a, ha, he, hf2⟩ | ⟨hn, hf2⟩
  ·rw [hf2, e2]
   have hmem : a ∈ d.az.drop n := by
    have : a ∈ d.az.take n ++ d.az.drop n := by rw [hs]; exact ha
    rcases List.mem_append.1 this with q | q
    ·have := ht a q; omega
    ·exact q
   have hp : (d.az.drop n).Pairwise (fun a b => a.aq < b.aq) := List.Pairwise.sublist (List.drop_sublist n _) hd
   cases hD : d.az.drop n with
   | nil => rw [hD] at hmem; simp at hmem
   | cons y t =>
    rw [hD] at hp hmem hg
    rw [List.pairwise_cons] at hp
    rcases List.mem_cons.1 hmem with q | q
    ·subst q
     show _ = a :: (a :: t).filter _
     rw [List.filter_cons_of_neg (by simp [he])]
     congr 1
     exact (List.filter_eq_self.2 fun x hx => by have := hp.1 x hx; simp; omega).symm
    ·have := hp.1 a q; have := hg y (by simp); omega
  ·rw [hf2] at hf; simp at hf
theorem afO {d : aD} (hd : wP d) (hl : d.az.length ≤ 100000) {a : ak} (ha : SmA a) : kH d a = some ((tg d a).2, (tg d a).1) := by
 unfold kH
 rw [bsAd d.az a.aq _ (fun x => dY x.aq a.aq) (by omega) (fun x => am2 x _), aP]
 obtain ⟨p1, p2, p3, p4, p5⟩ := aiB hd a.aq
 simp only [jn, p2]
 generalize bsR (fun x : ak => dY x.aq a.aq) d.az = n at *
 unfold tg tH
 cases hf : (ig d a.aq).2
 ·simp only [Bool.not_false, cond_true, Bool.false_and, cond_false, uY ha, aP]
  have : aaQ d.az (n : Int) a = some (ltR a.aq d.az ++ a :: gtR a.aq d.az) := by
   unfold aaQ
   rw [if_pos ⟨⟨by omega, by omega⟩, by unfold cap; omega⟩, Int.toNat_natCast, p1, p4 hf]
  rw [this, aP]
 ·have hD := p5 hf
  have hn : n < d.az.length := by
   have := congrArg List.length hD
   rw [List.length_drop, List.length_cons] at this; omega
  have he : d.az[n] = (ig d a.aq).1 := by
   rw [List.drop_eq_getElem_cons hn] at hD
   exact (List.cons.inj hD).1
  have hel : elO d.az (n : Int) = some (ig d a.aq).1 := by
   rw [← he]; unfold elO; rw [if_pos (by omega)]; simp [hn]
  simp only [Bool.not_true, cond_false, hel, aP, aiz, Bool.true_and]
  cases hnw : rI a (ig d a.aq).1
  ·rfl
  ·simp only [cond_true, uY ha, aP, Bool.not_true, cond_false]
   have : iV d.az (n : Int) a = some (ltR a.aq d.az ++ a :: gtR a.aq d.az) := by
    unfold iV
    rw [if_pos ⟨by omega, by omega⟩, Int.toNat_natCast, List.set_eq_take_append_cons_drop, if_pos hn, p1]
    rw [List.drop_eq_getElem_cons hn] at hD
    rw [(List.cons.inj hD).2]
   rw [this, aP]
theorem ada {d : aD} (hd : SmD d) : jc d = some d := by
 refine Ok.eq ?_
 unfold jc
 refine Ok.qk (fun P (m : List ak) => m = P) ?_ _ rfl (fun m hm => Ok.s (by rw [hm]))
 rintro P x r m Z hL rfl hZ
 have hx : x ∈ d.az := by rw [hL]; simp
 have hl : m.length < d.az.length := by rw [hL]; simp
 have := hd.1
 rw [uY (hd.2 x hx), aP, dJ (by simp; omega), aP]
 exact hZ _ rfl
theorem aqi {d : aD} (hd : SmD d) {a : ak} (ha : SmA a) : mN d a = some (if dbC d = 0 ∧ cu a = true then tg d a else (d, false)) := by
 unfold mN
 simp only [jn, ada hd, wL, rZ, aP]
 by_cases h : dbC d = 0
 ·cases hv : cu a
  ·simp [h]
  ·simp only [h, decide_true, Bool.not_true, cond_false, and_self, if_true]
   rw [afO (jW.1 h).asc hd.1 ha, aP]
 ·simp [h]
end Go.Proofs.YtpmifmdidfgpdaaGreat

/- Plain: abH as ct of mR; Put and auB. No condition but bU bB stand in each. -/
namespace Go.Proofs.YtpmifmdidfgpdaaGreat
set_option linter.all false
open Go
theorem adW : ∀ (l : List ak) (lo : Int), l.Pairwise (fun a b => a.aq < b.aq) → (∀ x ∈ l, lo ≤ x.aq ∧ x.aq ≤ 99) → (l.length : Int) ≤ max 0 (100 - lo)
 | [], lo, _, _ => by simp; omega
 | x :: r, lo, h, hb => by
  rw [List.pairwise_cons] at h
  have h1 := hb x (by simp)
  have := adW r (x.aq + 1) h.2 fun y hy => ⟨by have := h.1 y hy; omega, (hb y (by simp [hy])).2⟩
  simp only [List.length_cons]
  omega
theorem auC {d : aD} (h1 : ∀ a ∈ d.az, cu a = true) (h2 : wP d) : Vd d := by
 refine ⟨?_, h1, h2⟩
 have := adW d.az 1 h2 fun x hx => (ab6 (h1 x hx)).r
 omega
theorem aiC {d : aD} {a x : ak} : x ∈ (tH d a).az ↔ x = a ∨ (x ∈ d.az ∧ x.aq ≠ a.aq) := by
 simp only [tH, List.mem_append, List.mem_cons, ltR, gtR, List.mem_filter, decide_eq_true_eq]
 constructor
 ·rintro (⟨h1, h2⟩ | rfl | ⟨h1, h2⟩)
  ·exact .inr ⟨h1, by omega⟩
  ·exact .inl rfl
  ·exact .inr ⟨h1, by omega⟩
 ·rintro (rfl | ⟨h1, h2⟩)
  ·exact .inr (.inl rfl)
  ·rcases Int.lt_or_gt_of_ne h2 with h | h
   ·exact .inl ⟨h1, h⟩
   ·exact .inr (.inr ⟨h1, h⟩)
theorem aiD {d : aD} (h : wP d) (a : ak) : wP (tH d a) := by
 unfold wP tH
 simp only
 refine List.pairwise_append.2 ⟨List.Pairwise.sublist List.filter_sublist h, List.pairwise_cons.2 ⟨fun y hy => by simpa [gtR] using (List.mem_filter.1 hy).2, List.Pairwise.sublist List.filter_sublist h⟩, fun x hx y hy => ?_⟩
 have h1 : x.aq < a.aq := by simpa using (List.mem_filter.1 hx).2
 rcases List.mem_cons.1 hy with rfl | hy
 ·exact h1
 ·have : a.aq < y.aq := by simpa using (List.mem_filter.1 hy).2
  omega
theorem Vd.with {d : aD} (h : Vd d) {a : ak} (ha : cu a = true) : Vd (tH d a) :=
 auC (fun x hx => by rcases aiC.1 hx with rfl | ⟨h1, _⟩; exact ha; exact h.ok x h1) (aiD h.asc a)
theorem Vd.put {d : aD} (h : Vd d) {a : ak} (ha : cu a = true) : Vd (tg d a).1 := by
 unfold tg
 cases (ig d a.aq).2 && !rI a (ig d a.aq).1
 ·exact h.with ha
 ·exact h
/-! ## what is known of a aL -/
def mx (o : Option ak) (a : ak) : ak := match o with | none => a | some x => bif rI a x then a else x
/-! ## auA is an order -/
/-! ## auB -/
def aaE (a b : aD) : aD := b.az.foldl (fun m e => (tg m e).1) a
theorem abP {α β : Type} {f : β → α → β} {P : β → Prop} : ∀ (l : List α) (b : β), P b → (∀ b x, x ∈ l → P b → P (f b x)) → P (l.foldl f b)
 | [], b, h, _ => h
 | x :: l, b, h, hs => by
  simp only [List.foldl_cons]
  exact abP l _ (hs b x (by simp) h) fun b y hy => hs b y (by simp [hy])
theorem Vd.merge {a b : aD} (ha : Vd a) (hb : Vd b) : Vd (aaE a b) :=
 abP (P := Vd) b.az a ha fun d x hx h => h.put (hb.ok x hx)
theorem adx (a b : aD) : nQ a b = some (if dbC a = 0 ∧ dbC b = 0 then (aaE a b, 0) else (aD.mk [], 1)) := by
 unfold nQ
 simp only [jn, su, aP]
 by_cases h1 : dbC a = 0
 ·by_cases h2 : dbC b = 0
  ·simp only [h1, h2, decide_true, Bool.not_true, cond_false, and_self, if_true]
   refine Ok.eq ?_
   refine Ok.qk (fun P (m : List ak) => aD.mk m = P.foldl (fun m e => (tg m e).1) a ∧ Vd (aD.mk m)) ?_ _ ⟨rfl, jW.1 h1⟩ (fun m hm => Ok.s (by rw [hm.1]; rfl))
   rintro P x r m Z hL ⟨hm, hv⟩ hZ
   have hx := (jW.1 h2).ok x (by rw [hL]; simp)
   rw [abO, if_pos ⟨jW.2 hv, hx⟩, aP]
   exact hZ _ ⟨by rw [List.foldl_append, ← hm]; rfl, hv.put hx⟩
  ·simp [h1, h2]
 ·simp [h1]
theorem Va.sm {a : ak} (h : cu a = true) : SmA a := by have := ab6 h; exact ⟨by have := this.n; omega, by have := this.nc; omega⟩
theorem aiE {a : aD} (hs : SmD a) (b : aD) : kN a b = some (if dbC a = 0 ∧ dbC b = 0 then (aaE a b, 0) else (aD.mk [], 1)) := by
 unfold kN
 simp only [jn, wL, ada hs, aP]
 by_cases h1 : dbC a = 0
 ·by_cases h2 : dbC b = 0
  ·simp only [h1, h2, decide_true, Bool.not_true, cond_false, and_self, if_true]
   refine Ok.eq ?_
   refine Ok.qk (fun P (m : List ak) => aD.mk m = P.foldl (fun m e => (tg m e).1) a ∧ Vd (aD.mk m)) ?_ _ ⟨rfl, jW.1 h1⟩ (fun m hm => Ok.s (by rw [hm.1]; rfl))
   rintro P x r m Z hL ⟨hm, hv⟩ hZ
   have hx := (jW.1 h2).ok x (by rw [hL]; simp)
   rw [afO hv.asc (by have := hv.n; omega) (Va.sm hx), aP]
   exact hZ _ ⟨by rw [List.foldl_append, ← hm]; rfl, hv.put hx⟩
  ·simp [h1, h2]
 ·simp [h1]
theorem aaF (a : aD) : ab5 a a = true := by unfold ab5; rw [wM sv aeS]; simp
end Go.Proofs.YtpmifmdidfgpdaaGreat

/- Plain: the vS of a aL of a zS, by the specification. No condition but bU bB stand in each. -/
namespace Go.Proofs.YtpmifmdidfgpdaaGreat
set_option linter.all false
open Go
def oW (t : aH) (r n : Int) : bu := match t.Links.find? (fun l => eV l r n) with | some l => bu.mk n (lE r n l).1 l.bY | none => bu.mk n 0 0
def aeX (t : aH) (r : Int) : Bool := match t.aK.find? (fun x => decide (x.ID = r)) with | some x => x.aW | none => false
def ofA (t : aH) (r seq : Int) (cl : List bz) : ak := ak.mk r seq (aeX t r) ((jl t r).map (oW t r)) cl
theorem adX (t : aH) (r n : Int) : (oW t r n).bw = n := by unfold oW; split <;> rfl
theorem wQ {t : aH} (hv : Vt t) {a b : Int} {l : aT} (hl : l ∈ t.Links) (he : eV l a b = true) : oW t a b = bu.mk b (lE a b l).1 l.bY := by
 unfold oW
 cases hf : t.Links.find? (fun l => eV l a b) with
 | none => exact absurd he (List.find?_eq_none.1 hf l hl)
 | some x =>
  have hx := List.mem_of_find?_eq_some hf
  have hp := List.find?_some hf
  have h1 := hv.lt _ hl
  have h2 := hv.lt _ hx
  simp [eV] at he hp
  rw [acZ hv hx hl (by omega) (by omega)]
theorem adY {t : aH} (hv : Vt t) {l : aT} (hl : l ∈ t.Links) : oW t l.A l.B = bu.mk l.B l.jh l.bY := by
 rw [wQ hv hl (by simp [eV])]; simp [lE]
theorem adZ {t : aH} (hv : Vt t) {l : aT} (hl : l ∈ t.Links) : oW t l.B l.A = bu.mk l.A l.iN l.bY := by
 have := hv.lt _ hl
 rw [wQ hv hl (by simp [eV])]
 have e : (decide (l.A = l.B) && decide (l.B = l.A)) = false := by simp; omega
 simp only [lE, e, cond_false]
theorem adb {t : aH} (hv : Vt t) (r : Int) : iz t r = some (aeX t r) := by
 unfold iz
 simp only [sQ, aP, nU.2 hv, decide_true, Bool.not_true, cond_false]
 refine (sS (fun x : aX => decide (x.ID = r)) (fun x => some x.aW) (fun _ _ _ _ => rfl) _ _ _).trans ?_
 unfold aeX
 cases t.aK.find? (fun x => decide (x.ID = r)) <;> rfl
theorem zX {t : aH} (hv : Vt t) {r : Int} (hr : r ∈ ids t) : (jl t r).length ≤ 23 := by
 have h1 : r ∉ jl t r := fun h => afE hv ((oM hv).1 h) rfl
 have h2 : (jl t r).Nodup := (wJ hv r).imp fun h => by omega
 have := afG (a := r :: jl t r) (b := ids t) (List.nodup_cons.2 ⟨h1, h2⟩) fun x hx => by
  rcases List.mem_cons.1 hx with rfl | hx
  ·exact hr
  ·exact (List.mem_filter.1 hx).1
 have h3 := amT hv
 simp only [List.length_cons] at this
 omega
theorem aiF {t : aH} (hv : Vt t) {r : Int} (hr : r ∈ ids t) (seq : Int) (cl : List bz) : rD t r seq cl = some (bif cu (ofA t r seq cl) then (ofA t r seq cl, 0) else (noA, 2)) := by
 refine Ok.eq ?_
 unfold rD
 simp only [sQ, amP, adb hv, air hv, aP, nU.2 hv, abg.1 hr, decide_true, Bool.not_true, cond_false, Bool.true_and]
 refine Ok.qk (fun P (m : List bu) => m = P.map (oW t r)) ?_ _ rfl ?_
 ·rintro P n rest m Z hL rfl hZ
  have ade : rG t r n = true := (oM hv).1 (by rw [hL]; simp)
  have hlen : P.length < (jl t r).length := by rw [hL]; simp
  have hl23 := zX hv hr
  obtain ⟨l, hl, hc⟩ := oV.1 ade
  have hlt := hv.lt l hl
  have he : eV l r n = true := by simp [eV]; omega
  rw [xW, aP]
  refine Ok.qk (fun P2 (m2 : Int) => l ∈ P2 → m2 = l.bY) ?_ _ (by simp) ?_
  ·rintro P2 x rest2 m2 Z2 hL2 hm2 hZ2
   have hx : x ∈ t.Links := by rw [hL2]; simp
   have hmin : (if n < r then n else r) = l.A := by split <;> omega
   have hmax : (if n > r then n else r) = l.B := by split <;> omega
   rw [hmin, hmax]
   simp only [jn]
   refine Ok.cs (fun h => ?_) fun h => ?_
   ·simp at h
    refine hZ2 _ fun _ => ?_
    rw [acZ hv hx hl h.1 h.2]
   ·refine hZ2 _ fun hm => ?_
    rcases List.mem_append.1 hm with hm | hm
    ·exact hm2 hm
    ·simp at hm; subst hm; simp at h
  ·intro m2 hm2
   rw [dJ (by simp; omega), aP]
   refine hZ _ ?_
   rw [List.map_append, hm2 hl, List.map_cons, List.map_nil, wQ hv hl he, ac0 hv hl he]
 ·rintro m rfl
  rw [pM, aP]
  show Ok (bif !cu (ofA t r seq cl) then _ else _) _
  cases cu (ofA t r seq cl)
  ·exact Ok.s rfl
  ·exact Ok.s rfl
theorem aqj {α : Type} {p : α → α → Bool} {l : List α} (h : l.Pairwise fun a b => p a b = true) : fA p l = true := mU h
/-- what makes the vS of a aL valid -/
theorem abQ {t : aH} (hv : Vt t) {r : Int} (hr : r ∈ ids t) (seq : Int) (cl : List bz) : cu (ofA t r seq cl) = (inB seq 1 1000000 && (decide ((cl.length : Int) ≤ 8) && (cl.all ko && rY cl))) := by
 have h23 := zX hv hr
 have hr99 : inB r 1 99 = true := by
  obtain ⟨x, hx, e⟩ := List.mem_map.1 hr
  have := hv.idr x hx
  simp only [inB, Bool.and_eq_true, decide_eq_true_eq]; omega
 have vZ : ((jl t r).map (oW t r)).all (kU (ofA t r seq cl)) = true := by
  rw [List.all_eq_true]
  intro x hx
  obtain ⟨n, hn, rfl⟩ := List.mem_map.1 hx
  have ade := (oM hv).1 hn
  obtain ⟨y, hy, e⟩ := List.mem_map.1 (abh hv ade)
  have hid := hv.idr y hy
  obtain ⟨l, hl, hc⟩ := oV.1 ade
  have hlt := hv.lt l hl
  have hb := hv.okl l hl
  simp only [vj, rF, Bool.or_eq_false_iff, Bool.not_eq_false', Bool.and_eq_true, decide_eq_true_eq, decide_eq_false_iff_not] at hb
  have hne := afE hv ade
  rw [wQ hv hl (by simp [eV]; omega)]
  have hp : 1 ≤ (lE r n l).1 ∧ (lE r n l).1 ≤ 1000 := by
   unfold lE
   simp only
   cases (decide (l.A = r) && decide (l.B = n)) <;> simp <;> omega
  have er : (ofA t r seq cl).aq = r := rfl
  simp only [kU, inB, er, Bool.and_eq_true, decide_eq_true_eq, Bool.not_eq_true', decide_eq_false_iff_not]
  exact ⟨⟨⟨⟨by omega, by omega⟩, fun h => hne h.symm⟩, hp⟩, by omega, by omega⟩
 have aiA : uB ((jl t r).map (oW t r)) = true := by
  refine aqj (List.pairwise_map.2 ((wJ hv r).imp fun h => ?_))
  simp only [adX, decide_eq_true_eq]; exact h
 have e1 : (ofA t r seq cl).Links = (jl t r).map (oW t r) := rfl
 unfold cu
 rw [e1, vZ, aiA]
 have e2 : decide ((((jl t r).map (oW t r)).length : Int) ≤ 23) = true := by simp; omega
 rw [e2]
 show (inB r 1 99 && inB seq 1 1000000 && true && (true && true) && (decide ((cl.length : Int) ≤ 8) && (cl.all ko && rY cl))) = _
 rw [hr99]; simp
end Go.Proofs.YtpmifmdidfgpdaaGreat

/- Plain: the wG bB the tape aiJ yy ait are valid. No condition. -/
namespace Go.Proofs.YtpmifmdidfgpdaaGreat
set_option linter.all false
open Go
/-- one link of the tape, ahead of the order -/
def coL (l m : aT) : Prop := l.B < m.B ∨ (l.B = m.B ∧ l.A < m.A)
theorem afP {l : List aT} (hl : l.length ≤ 1000000) (hd : l.Pairwise coL) : Ok (qZ l) (fun m => m.Pairwise (fun a b => ltL a b = true) ∧ (∀ x, x ∈ m ↔ x ∈ l) ∧ m.length = l.length) := by
 unfold qZ
 refine Ok.qk (fun P m => m.Pairwise (fun a b => ltL a b = true) ∧ (∀ x, x ∈ m ↔ x ∈ P) ∧ m.length = P.length) ?_ _ ⟨by simp, by simp, rfl⟩ fun s hs => Ok.s hs
 rintro P x r s Z hL ⟨i1, i2, i3⟩ hZ
 have hP : P.length < l.length := by rw [hL]; simp
 have hne : ∀ y ∈ s, ltL y x = false → ltL x y = true := fun y hy h => by
  rw [hL] at hd
  have := (List.pairwise_append.1 hd).2.2 y ((i2 y).1 hy) x (by simp)
  simp only [ltL, Bool.or_eq_false_iff, Bool.and_eq_false_iff, decide_eq_false_iff_not, Bool.or_eq_true, Bool.and_eq_true, decide_eq_true_eq] at *
  unfold coL at this
  omega
 refine Ok.whl (fun at1 : Int => (0 ≤ at1 ∧ at1 ≤ s.length) ∧ ∀ y ∈ s.take at1.toNat, ltL y x = true) (fun at1 => ((s.length : Int) - at1).toNat) ⟨by omega, by simp⟩ (by omega) ?_
 rintro a Z2 ⟨⟨ha0, ha1⟩, hlt⟩ hZ2
 refine Ok.jn (fun v : Bool => (v = true → ∃ h : a.toNat < s.length, ltL s[a.toNat] x = true) ∧ (v = false → ∀ h : a.toNat < s.length, ltL s[a.toNat] x = false)) ?_ ?_
 ·rintro v ⟨hv, hv2⟩
  refine Ok.cs (fun h => ?_) fun h => ?_
  ·obtain ⟨h1, h2⟩ := hv h
   rw [cr (by omega) (by omega)]
   refine hZ2 _ ⟨by omega, fun y hy => ?_⟩ (by omega)
   rw [show (a + 1).toNat = a.toNat + 1 by omega, List.take_succ_eq_append_getElem h1] at hy
   rcases List.mem_append.1 hy with hy | hy
   ·exact hlt y hy
   ·simp at hy; subst hy; exact h2
  ·have hv2 := hv2 h
   refine Ok.bnd (aax ⟨by omega, by omega, by omega⟩) fun l1 h1 => ?_
   refine Ok.bnd (ia (by simp; omega)) fun l2 h2 => ?_
   refine Ok.bnd (ia (by simp at h2 ⊢; omega)) fun l3 h3 => ?_
   refine Ok.bnd (aax ⟨by omega, by omega, by omega⟩) fun l4 h4 => ?_
   refine Ok.bnd (ia (by simp at h2 h3 ⊢; omega)) fun l5 h5 => ?_
   have e5 : l5 = s.take a.toNat ++ x :: s.drop a.toNat := by
    rw [h5.1, h3.1, h2.1, h1.1, h4.1]; simp
   have hgt : ∀ y ∈ s.drop a.toNat, ltL x y = true := fun y hy => by
    have hlen : a.toNat < s.length := by
     have := List.length_pos_of_mem hy
     rw [List.length_drop] at this; omega
    rw [List.drop_eq_getElem_cons hlen] at hy
    have h0 := hne _ (List.getElem_mem hlen) (hv2 hlen)
    rcases List.mem_cons.1 hy with rfl | hy
    ·exact h0
    ·have hp : (s.drop a.toNat).Pairwise (fun a b => ltL a b = true) := i1.sublist (List.drop_sublist _ _)
     rw [List.drop_eq_getElem_cons hlen, List.pairwise_cons] at hp
     exact uW _ _ _ h0 (hp.1 y hy)
   refine hZ _ ⟨?_, fun y => ?_, ?_⟩
   ·rw [e5]
    refine List.pairwise_append.2 ⟨i1.sublist (List.take_sublist _ _), List.pairwise_cons.2 ⟨hgt, i1.sublist (List.drop_sublist _ _)⟩, fun y hy z hz => ?_⟩
    rcases List.mem_cons.1 hz with rfl | hz
    ·exact hlt y hy
    ·exact uW _ _ _ (hlt y hy) (hgt z hz)
   ·have hs := List.take_append_drop a.toNat s
    have : y ∈ s ↔ y ∈ s.take a.toNat ∨ y ∈ s.drop a.toNat := by rw [← List.mem_append, hs]
    rw [e5, List.mem_append, List.mem_cons, List.mem_append, List.mem_singleton, ← i2 y, this]
    constructor
    ·rintro (h | h | h); exact .inl (.inl h); exact .inr h; exact .inl (.inr h)
    ·rintro ((h | h) | h); exact .inl h; exact .inr (.inr h); exact .inr (.inl h)
   ·rw [e5]; simp; omega
 ·intro J hJ
  refine Ok.cs (fun h => ?_) fun h => hJ _ ⟨by simp, fun _ h2 => by simp at h; omega⟩
  simp at h
  refine Ok.bnd (pJ ha0 h) fun e he => ?_
  obtain ⟨h1, h2⟩ := List.getElem?_eq_some_iff.1 he.2
  subst h2
  refine Ok.cs (fun g => hJ _ ⟨fun _ => ⟨h1, by simp [ltL]; simp at g; omega⟩, by simp⟩) fun g => ?_
  refine Ok.cs (fun g2 => ?_) fun g2 => hJ _ ⟨by simp, fun _ _ => by simp [ltL]; simp at g g2; omega⟩
  refine hJ _ ⟨fun hd => ⟨h1, ?_⟩, fun hd _ => ?_⟩
  ·simp at g g2 hd; simp [ltL]; omega
  ·simp at g g2 hd; simp [ltL]; omega
def abq (l : aT) : Prop := 1 ≤ l.A ∧ l.A < l.B ∧ (1 ≤ l.jh ∧ l.jh ≤ 5) ∧ (1 ≤ l.iN ∧ l.iN ≤ 5) ∧ 0 ≤ l.bY ∧ l.bY ≤ 3
/-- a zS of the tape: the mR from 1 on -/
structure Vg (g : aH) (most : Int) : Prop where
 v : Vt g
 n : 1 ≤ g.aK.length ∧ (g.aK.length : Int) ≤ most
 i : ∀ r ∈ g.aK, r.ID ≤ most
theorem ady {t : aQ} {most : Int} (h : cE t) (hm : 1 ≤ most ∧ most ≤ 8) : Ok (jr t most 0) (fun p => Vg p.1 most ∧ cE p.2) := by
 unfold jr
 refine Ok.bnd (nF h) fun p hp => ?_
 obtain ⟨hk, hp⟩ := hp
 have hk := hk (by omega) (by omega) (by omega)
 refine Ok.chk (by simp; omega) ?_
 refine Ok.fW (fun j (m : List aX) => (m.length : Int) = j - 1 ∧ m.Pairwise (fun a b => a.ID < b.ID) ∧ (∀ r ∈ m, 1 ≤ r.ID ∧ r.ID < j) ∧ ∀ i, 1 ≤ i → i < j → ∃ r ∈ m, r.ID = i) 1 (p.1 + 1) ?_ ?_ _ _ _ rfl (by omega) (by omega) ⟨by simp, by simp, by simp, fun i h1 h2 => by omega⟩
 ·rintro i s Z h1 h2 ⟨hI, hI2, hI3, hI4⟩ hZ
  refine Ok.bnd (ia (by simp; omega)) fun l1 hl1 => hZ _ ⟨by have := hl1.2; simp at this; omega, ?_, ?_, ?_⟩
  ·rw [hl1.1]
   refine List.pairwise_append.2 ⟨hI2, by simp, fun a ha b hb => ?_⟩
   have := hI3 a ha
   simp at hb; subst hb; exact this.2
  ·rw [hl1.1]; intro r hr
   rcases List.mem_append.1 hr with hr | hr
   ·have := hI3 r hr; omega
   ·simp at hr; subst hr; simp only; omega
  ·rw [hl1.1]; intro j h3 h4
   by_cases e : j = i
   ·exact ⟨aX.mk i true, List.mem_append_right _ (by simp), e.symm⟩
   ·obtain ⟨r, hr, e2⟩ := hI4 j h3 (by omega)
    exact ⟨r, List.mem_append_left _ hr, e2⟩
 rintro i rs hi1 hi2 ⟨hrs, hrs2, aqk, aql⟩
 have hi2 := hi2 (by omega)
 subst hi2
 refine Ok.bnd (kI hp (by decide) (by decide)) fun c hc => ?_
 have ab8 : 1 ≤ c.1 ∧ c.1 ≤ 5 := by have := hc.1; simp at this; omega
 refine Ok.chk (by simp; omega) ?_
 refine Ok.fW (fun j (s : List aT × List Int × Int) => ((s.1.length : Int) ≤ 8 * (j - 2) ∧ (∀ l ∈ s.1, abq l ∧ l.B < j) ∧ s.1.Pairwise coL) ∧ cE (aQ.mk s.2.1 s.2.2)) 2 (if 2 ≤ p.1 + 1 then p.1 + 1 else 2) ?_ ?_ _ _ _ ?_ (by omega) ?_ ⟨by simp, hc.2⟩
 ·intro b s Z hb1 hb2 hI hZ
  have hb3 : b < p.1 + 1 := by split at hb2 <;> omega
  obtain ⟨ms, L, At⟩ := s
  obtain ⟨⟨hlen, hok, hpw⟩, ht⟩ := hI
  simp only at hlen hok hpw
  refine Ok.bnd (nF ht) fun tr htr => ?_
  refine Ok.bnd (vP htr.2 (by omega)) fun sk hsk => ?_
  refine Ok.chk (by simp; omega) ?_
  refine Ok.fW (fun a (s : List aT × List Int × Int) => ((s.1.length : Int) ≤ 8 * (b - 2) + (a - 1) ∧ (∀ l ∈ s.1, abq l ∧ (l.B < b ∨ l.B = b ∧ l.A < a)) ∧ s.1.Pairwise coL) ∧ cE (aQ.mk s.2.1 s.2.2)) 1 b ?_ ?_ _ _ _ rfl (by omega) (by omega) ⟨⟨by simp only; omega, fun l hl => ⟨(hok l hl).1, .inl (hok l hl).2⟩, hpw⟩, hsk⟩
  ·intro a s Z3 ha1 ha2 hI3 hZ3
   obtain ⟨m5, m6, m7⟩ := s
   obtain ⟨⟨hl5, vl, abr⟩, ht5⟩ := hI3
   simp only at hl5 vl abr
   refine Ok.jn (fun s : List Int × Int × List aT => ((s.2.2.length : Int) ≤ 8 * (b - 2) + a ∧ (∀ l ∈ s.2.2, abq l ∧ (l.B < b ∨ l.B = b ∧ l.A < a + 1)) ∧ s.2.2.Pairwise coL) ∧ cE (aQ.mk s.1 s.2.1)) (fun s hs => hZ3 _ ⟨by have h := hs.1; obtain ⟨_, _, _⟩ := s; simp only at h ⊢; exact ⟨by omega, h.2⟩, hs.2⟩) fun J1 hJ1 => ?_
   refine Ok.jn (fun s : Bool × List Int × Int => cE (aQ.mk s.2.1 s.2.2)) (fun s hs => ?_) fun J2 hJ2 => ?_
   ·obtain ⟨v, m11, m12⟩ := s
    refine Ok.cs (fun _ => ?_) fun _ => hJ1 _ ⟨⟨by simp only; omega, fun l hl => ⟨(vl l hl).1, by have := (vl l hl).2; omega⟩, abr⟩, hs⟩
    refine Ok.bnd (nF hs) fun q7 h7 => ?_
    refine Ok.bnd (nF h7.2) fun q8 h8 => ?_
    refine Ok.bnd (fS h8.2 (by omega)) fun q9 h9 => ?_
    have c7 := h7.1 (by omega) (by omega) (by omega)
    have c8 := h8.1 (by omega) (by omega) (by omega)
    have c9 := h9.1.2.1 (by omega)
    have c90 := h9.1.1
    refine Ok.bnd (ia (by simp; omega)) fun l2 hl2 => hJ1 _ ⟨⟨by have := hl2.2; rw [List.length_cons, List.length_nil] at this; simp only; omega, ?_, ?_⟩, h9.2⟩
    ·simp only [hl2.1]; intro l hl
     rcases List.mem_append.1 hl with hl | hl
     ·exact ⟨(vl l hl).1, by have := (vl l hl).2; omega⟩
     ·simp only [List.mem_singleton] at hl; subst hl
      exact ⟨⟨ha1, ha2, ⟨c7.1, Int.le_trans c7.2 ab8.2⟩, ⟨c8.1, Int.le_trans c8.2 ab8.2⟩, c90, by show q9.1 ≤ 3; omega⟩, .inr ⟨rfl, by show a < a + 1; omega⟩⟩
    ·simp only [hl2.1]
     refine List.pairwise_append.2 ⟨abr, by simp, fun l hl m hm => ?_⟩
     have := (vl l hl).2
     simp at hm; subst hm; unfold coL; simp only; omega
   ·refine Ok.cs (fun _ => ?_) fun _ => Ok.bnd (vP ht5 (by omega)) fun q h => hJ2 _ h
    exact Ok.cs (fun _ => hJ2 _ ht5) fun _ => Ok.bnd (vP ht5 (by omega)) fun q h => hJ2 _ h
  ·intro a s ha1 ha2 hI3
   have ha2 := ha2 (by omega)
   obtain ⟨m5, m6, m7⟩ := s
   obtain ⟨⟨hl5, vl, abr⟩, ht5⟩ := hI3
   simp only at hl5 vl abr
   exact hZ _ ⟨⟨by simp only; omega, fun l hl => ⟨(vl l hl).1, by have := (vl l hl).2; omega⟩, abr⟩, ht5⟩
 ·intro b s hb1 hb2 hI
  have hb2 := hb2 (by split <;> omega)
  have hb3 : b ≤ 9 := by split at hb2 <;> omega
  obtain ⟨m2, m3, m4⟩ := s
  obtain ⟨⟨hlen, hok, hpw⟩, ht⟩ := hI
  simp only at hlen hok hpw
  refine Ok.bnd (afP (by omega) hpw) fun l hl => ?_
  obtain ⟨hl1, hl2, hl3⟩ := hl
  have hV : Vg (aH.mk rs l) most := by
   have hb4 : b = p.1 + 1 := by split at hb2 <;> omega
   have aeY : ∀ x ∈ l, abq x ∧ x.B < p.1 + 1 := fun x hx => by
    have := hok x ((hl2 x).1 hx)
    exact ⟨this.1, by omega⟩
   refine ⟨⟨by simp only; omega, by simp only; omega, fun r hr => by have := aqk r hr; omega, hrs2, fun x hx => ?_, fun x hx => ?_, fun x hx => (aeY x hx).1.2.1, hl1⟩, by simp only; omega, fun r hr => by have := aqk r hr; omega⟩
   ·have := (aeY x hx).1
    unfold abq at this
    have c1 : rF x.jh = true := by simp [rF]; omega
    have c2 : rF x.iN = true := by simp [rF]; omega
    simp only [vj, c1, c2, Bool.not_true, Bool.or_self, Bool.false_or, Bool.or_eq_false_iff, decide_eq_false_iff_not]
    omega
   ·have := aeY x hx
    unfold abq at this
    obtain ⟨r1, g1, g2⟩ := aql x.A (by omega) (by omega)
    obtain ⟨r2, g3, g4⟩ := aql x.B (by omega) (by omega)
    exact ⟨wH.2 ⟨r1, g1, g2⟩, wH.2 ⟨r2, g3, g4⟩⟩
  simp only [jn]
  exact Ok.s ⟨hV, ht⟩
 ·split <;> omega
 ·split <;> omega
end Go.Proofs.YtpmifmdidfgpdaaGreat

/- Plain: the vS of a aL of a zS, by the program. No condition but bU bB stand in each. -/
namespace Go.Proofs.YtpmifmdidfgpdaaGreat
set_option linter.all false
open Go
def ofE (r : Int) (l : aT) : Option bu := if r = l.A then some (bu.mk l.B l.jh l.bY) else if r = l.B then some (bu.mk l.A l.iN l.bY) else none
theorem aiG {t : aH} (hv : Vt t) (r : Int) : t.Links.filterMap (ofE r) = (jl t r).map (oW t r) := by
 have hne : ∀ l ∈ t.Links, l.A < l.B := fun l hl => hv.lt l hl
 refine tG (r := fun a b : bu => a.bw < b.bw) (fun a => Int.lt_irrefl _) (fun a b c => Int.lt_trans) ?_ ?_ fun x => ?_
 ·rw [List.pairwise_filterMap]
  refine List.Pairwise.imp_of_mem (fun {l m} hl hm hlt x hx y hy => ?_) hv.acX
  have h1 := hne l hl; have h2 := hne m hm
  have h3 := amY.1 hlt
  unfold ofE at hx hy
  split at hx
  ·cases hx
   split at hy
   ·cases hy; simp only; omega
   ·split at hy
    ·cases hy; simp only; omega
    ·cases hy
  ·split at hx
   ·cases hx
    split at hy
    ·cases hy; simp only; omega
    ·split at hy
     ·cases hy; simp only; omega
     ·cases hy
   ·cases hx
 ·exact List.pairwise_map.2 ((wJ hv r).imp fun h => by simp only [adX]; exact h)
 ·rw [List.mem_filterMap, List.mem_map]
  constructor
  ·rintro ⟨l, hl, hx⟩
   have h1 := hne l hl
   unfold ofE at hx
   split at hx
   ·cases hx; rename_i e; subst e
    exact ⟨l.B, (oM hv).2 (oV.2 ⟨l, hl, .inl ⟨rfl, rfl⟩⟩), adY hv hl⟩
   ·split at hx
    ·cases hx; rename_i e; subst e
     exact ⟨l.A, (oM hv).2 (oV.2 ⟨l, hl, .inr ⟨rfl, rfl⟩⟩), adZ hv hl⟩
    ·cases hx
  ·rintro ⟨n, hn, rfl⟩
   obtain ⟨l, hl, hc⟩ := oV.1 ((oM hv).1 hn)
   have h1 := hne l hl
   refine ⟨l, hl, ?_⟩
   unfold ofE
   rcases hc with ⟨rfl, rfl⟩ | ⟨rfl, rfl⟩
   ·rw [if_pos rfl, adY hv hl]
   ·rw [if_neg (by omega), if_pos rfl, adZ hv hl]
end Go.Proofs.YtpmifmdidfgpdaaGreat

/- Plain: aaG: aeh wG, nodes, checks and own vQ, by both. No condition but bU bB stand in each. -/
namespace Go.Proofs.YtpmifmdidfgpdaaGreat
set_option linter.all false
open Go
theorem uZ {α γ β : Type} (f : α → γ) {K : List γ → Option β} : ∀ (l : List α) (j : Nat) (s : List γ), s.length + l.length ≤ 1000000 → bO l j (fun (_ : Int) (e : α) (Z : List γ → Option β) (o : List γ) => bnd (cI o ([f e] : List γ)) fun l => Z l) K s = K (s ++ l.map f)
 | [], _, s, _ => by simp [bO]
 | x :: r, j, s, h => by
  simp only [bO]
  simp only [List.length_cons] at h
  rw [dJ (by simp; omega), aP, uZ f r (j + 1) _ (by simp; omega)]
  simp
def gR (f : aB) : aH := aH.mk (f.aG.map fun n => aX.mk n.aq n.aW) f.Links
def SmF (f : aB) : Prop := f.Links.length ≤ 100000 ∧ f.aG.length ≤ 100000
theorem u0 {f : aB} (h : SmF f) : fh f = some (gR f) := by
 unfold fh
 rw [uZ (fun n : aZ => aX.mk n.aq n.aW) f.aG 0 [] (by have := h.2; simp; omega)]
 rfl
theorem ad0 {l : List aT} (h : l.length ≤ 100000) : cZ l = some l := by
 unfold cZ dM
 rw [dJ (by simp; omega)]; rfl
theorem aaH {f : aB} (h : SmF f) : dO f = some (gR f) := by
 unfold dO
 rw [ad0 h.1, aP, uZ (fun n : aZ => aX.mk n.aq n.aW) f.aG 0 [] (by have := h.2; simp; omega)]
 rfl
/-! the place of a node -/
def th (r : Int) : List aZ → Nat → Int
 | [], _ => -1
 | x :: l, j => bif decide (x.aq = r) then (j : Int) else th r l (j + 1)
theorem x2 {B : Int → aZ → (Unit → Option Int) → Unit → Option Int} {K : Unit → Option Int} {r : Int} (hB : ∀ j x Z s, B j x Z s = bif decide (x.aq = r) then some j else Z s) (hK : ∀ s, K s = some (-1)) : ∀ (l : List aZ) (j : Nat) (s : Unit), bO l j B K s = some (th r l j)
 | [], _, s => hK s
 | x :: l, j, s => by
  simp only [bO, hB, th, x2 hB hK l (j + 1) s]
  cases decide (x.aq = r) <;> rfl
def gT (f : aB) (r : Int) : Int := th r f.aG 0
theorem abR (f : aB) (r : Int) : jS f r = some (gT f r) := by
 unfold jS
 exact x2 (fun j x Z s => rfl) (fun s => rfl) f.aG 0 ()
theorem abt (f : aB) (r : Int) : fO f r = some (gT f r, decide (0 ≤ gT f r)) := by
 unfold fO ei
 rw [x2 (r := r) (fun j x Z s => by simp only [mo, aP]) (fun s => rfl)]
 rfl
theorem ad1 (r : Int) : ∀ (l p : List aZ), (th r l p.length = -1 ∧ ∀ x ∈ l, x.aq ≠ r) ∨ ∃ a x b, l = a ++ x :: b ∧ th r l p.length = ((p.length + a.length : Nat) : Int) ∧ x.aq = r
 | [], _ => .inl ⟨rfl, by simp⟩
 | x :: l, p => by
  by_cases h : x.aq = r
  ·exact .inr ⟨[], x, l, rfl, by simp [th, h], h⟩
  ·have := ad1 r l (p ++ [x])
   simp only [List.length_append, List.length_cons, List.length_nil] at this
   rcases this with ⟨h1, h2⟩ | ⟨a, y, b, h1, h2, h3⟩
   ·exact .inl ⟨by simp only [th, h, decide_false, cond_false]; exact h1, fun z hz => by
     rcases List.mem_cons.1 hz with rfl | hz
     ·exact h
     ·exact h2 z hz⟩
   ·exact .inr ⟨x :: a, y, b, by rw [h1]; rfl, by simp only [th, h, decide_false, cond_false]; rw [h2]; simp; omega, h3⟩
theorem wR (f : aB) (r : Int) : (gT f r = -1 ∧ ∀ x ∈ f.aG, x.aq ≠ r) ∨ ∃ a x b, f.aG = a ++ x :: b ∧ gT f r = (a.length : Int) ∧ x.aq = r := by
 have := ad1 r f.aG []
 simpa [gT] using this
/-! the check -/
def lF (l : List bz) : Bool := decide ((l.length : Int) ≤ 8) && (l.all ko && rY l)
def okN (n : aZ) : Bool := decide (0 ≤ n.Seq) && (decide (n.Seq ≤ 1000000) && (lF n.Claims && decide (dbC n.Database = 0)))
def okM (f : aB) (m : br) : Bool := decide (0 ≤ gT f m.gM) && (decide (0 ≤ gT f m.To) && (!decide (m.gM = m.To) && decide (dbC m.Database = 0)))
def oN (f : aB) : Bool := decide (mT (gR f) = 0) && (!decide ((400:Int) < (f.aj.length:Int)) && (f.aG.all okN && f.aj.all (okM f)))
theorem wS {α β : Type} {B : Int → α → (Unit → Option β) → Unit → Option β} {K : Unit → Option β} (p : α → Bool) (a : Option β) (l : List α) (hB : ∀ j, ∀ x ∈ l, ∀ Z, B j x Z () = bif p x then Z () else a) : ∀ (j : Nat), bO l j B K () = bif l.all p then K () else a := by
 induction l with
 | nil => intro j; rfl
 | cons x r ih =>
  intro j
  simp only [bO]
  rw [hB _ x (by simp), ih (fun j y hy => hB j y (by simp [hy])), List.all_cons]
  cases p x <;> rfl
theorem vm {f : aB} (h : SmF f) : jT f = some (oN f) := by
 unfold jT oN
 simp only [jn, u0 h, sQ, aP]
 by_cases h1 : mT (gR f) = 0
 ·by_cases h2 : (400:Int) < (f.aj.length:Int)
  ·simp [h1, h2]
  ·simp only [h1, h2, decide_true, decide_false, Bool.not_true, Bool.not_false, cond_false, Bool.true_and]
   rw [wS okN (some false) f.aG]
   ·rw [wS (okM f) (some false) f.aj]
    ·cases f.aG.all okN <;> cases f.aj.all (okM f) <;> rfl
    ·intro j x hx Z
     simp only [abR, su, aP, okM]
     by_cases a1 : gT f x.gM < 0
     ·simp [a1, show ¬ 0 ≤ gT f x.gM by omega]
     by_cases a2 : gT f x.To < 0
     ·simp [a1, a2, show ¬ 0 ≤ gT f x.To by omega]
     by_cases a3 : x.gM = x.To
     ·simp [a1, a2, a3]
     ·cases h4 : decide (dbC x.Database = 0) <;> simp [a1, a2, a3, h4, show 0 ≤ gT f x.gM by omega, show 0 ≤ gT f x.To by omega]
   ·intro j x hx Z
    simp only [xY, su, aP, okN, lF]
    by_cases a1 : x.Seq < 0
    ·simp [a1, show ¬ 0 ≤ x.Seq by omega]
    by_cases a2 : 1000000 < x.Seq
    ·simp [a1, a2, show ¬ x.Seq ≤ 1000000 by omega]
    ·simp only [a1, a2, decide_false, cond_false, show 0 ≤ x.Seq by omega, show x.Seq ≤ 1000000 by omega, decide_true, Bool.true_and]
     cases (decide ((x.Claims.length : Int) ≤ 8) && (x.Claims.all ko && rY x.Claims)) <;> cases h4 : decide (dbC x.Database = 0) <;> simp
 ·simp [h1]
theorem tN {f : aB} {n : aZ} (hn : n ∈ f.aG) : n.aq ∈ ids (gR f) := by
 unfold ids gR
 simp only [List.map_map]
 exact List.mem_map.2 ⟨n, hn, rfl⟩
theorem adz {t : aH} (hv : Vt t) {r : Int} (hr : r ∈ ids t) : inB r 1 99 = true := by
 obtain ⟨x, hx, rfl⟩ := List.mem_map.1 hr
 have := hv.idr x hx
 simp [inB]; omega
theorem wT {f : aB} (h : SmF f) : dX f = some (bif oN f then 0 else 1) := by
 unfold dX oN
 simp only [jn, aaH h, xU, aP]
 by_cases h1 : mT (gR f) = 0
 ·have hv := nU.1 h1
  by_cases h2 : (400:Int) < (f.aj.length:Int)
  ·simp [h1, h2]
  ·simp only [h1, h2, decide_true, decide_false, Bool.not_true, Bool.not_false, cond_false, Bool.true_and]
   rw [wS okN (some 1) f.aG]
   ·rw [wS (okM f) (some 1) f.aj]
    ·cases f.aG.all okN <;> cases f.aj.all (okM f) <;> rfl
    ·intro j x hx Z
     simp only [abt, wL, aP, okM]
     cases a1 : decide (0 ≤ gT f x.gM) <;> cases a2 : decide (0 ≤ gT f x.To) <;> cases a3 : decide (x.gM = x.To) <;> cases h4 : decide (dbC x.Database = 0) <;> simp
   ·intro j x hx Z
    have hr := adz hv (tN hx)
    have hval : cu (ak.mk x.aq 1 false [] x.Claims) = lF x.Claims := by
     simp only [cu, hr, lF, List.all_nil, uB, fA, List.length_nil, Bool.true_and, Bool.and_true]
     rfl
    simp only [rZ, hval, wL, aP, okN]
    by_cases a1 : x.Seq < 0
    ·simp [a1, show ¬ 0 ≤ x.Seq by omega]
    by_cases a2 : 1000000 < x.Seq
    ·simp [a1, a2, show ¬ x.Seq ≤ 1000000 by omega]
    ·simp only [a1, a2, decide_false, cond_false, show 0 ≤ x.Seq by omega, show x.Seq ≤ 1000000 by omega, decide_true, Bool.true_and]
     cases lF x.Claims <;> cases h4 : decide (dbC x.Database = 0) <;> simp
 ·simp [h1]
/-! a valid flood -/
structure Vf (f : aB) : Prop where
 t : Vt (gR f)
 m : f.aj.length ≤ 400
 n : ∀ n ∈ f.aG, (0 ≤ n.Seq ∧ n.Seq ≤ 1000000) ∧ lF n.Claims = true ∧ Vd n.Database
 g : ∀ m ∈ f.aj, 0 ≤ gT f m.gM ∧ 0 ≤ gT f m.To ∧ m.gM ≠ m.To ∧ Vd m.Database
theorem uF {f : aB} : oN f = true ↔ Vf f := by
 unfold oN
 simp only [Bool.and_eq_true, decide_eq_true_eq, Bool.not_eq_true', decide_eq_false_iff_not, List.all_eq_true, okN, okM]
 constructor
 ·rintro ⟨h1, h2, h3, h4⟩
  exact ⟨nU.1 h1, by omega, fun n hn => by have := h3 n hn; exact ⟨⟨this.1, this.2.1⟩, this.2.2.1, jW.1 this.2.2.2⟩, fun m hm => by have := h4 m hm; exact ⟨this.1, this.2.1, this.2.2.1, jW.1 this.2.2.2⟩⟩
 ·intro h
  exact ⟨nU.2 h.t, by have := h.m; omega, fun n hn => by have := h.n n hn; exact ⟨this.1.1, this.1.2, this.2.1, jW.2 this.2.2⟩, fun m hm => by have := h.g m hm; exact ⟨this.1, this.2.1, this.2.2.1, jW.2 this.2.2.2⟩⟩
theorem Vf.len {f : aB} (h : Vf f) : f.aG.length ≤ 24 := by have := h.t.nr; simpa [gR] using this
theorem Vf.asc {f : aB} (h : Vf f) : f.aG.Pairwise fun a b => a.aq < b.aq := by
 have := h.t.asc
 simp only [gR, List.pairwise_map] at this
 exact this
theorem Vf.idx {f : aB} (h : Vf f) {a b : List aZ} {n : aZ} (hL : f.aG = a ++ n :: b) : gT f n.aq = (a.length : Int) := by
 have hp := h.asc
 rw [hL] at hp
 rcases wR f n.aq with ⟨_, h2⟩ | ⟨a', x, b', h1, h2, h3⟩
 ·exact absurd rfl (h2 n (by rw [hL]; simp))
 ·rw [h2]
  have hl : a'.length = a.length := by
   have q1 := List.pairwise_iff_getElem.1 h.asc
   have e1 : ∀ (h : a.length < f.aG.length), f.aG[a.length] = n := fun h => by simp [hL]
   have e2 : ∀ (h : a'.length < f.aG.length), f.aG[a'.length] = x := fun h => by simp [h1]
   have l1 : a.length < f.aG.length := by rw [hL]; simp
   have l2 : a'.length < f.aG.length := by rw [h1]; simp
   rcases Nat.lt_trichotomy a.length a'.length with q | q | q
   ·have := q1 _ _ l1 l2 q; rw [e1, e2] at this; omega
   ·exact q.symm
   ·have := q1 _ _ l2 l1 q; rw [e1, e2] at this; omega
  rw [hl]
/-! own vQ -/
theorem auD {t : aH} (hv : Vt t) {r : Int} (hr : r ∈ ids t) (seq : Int) {cl : List bz} (hc : cl.length ≤ 100000) : pG t r seq cl = some (bif cu (ofA t r seq cl) then (ofA t r seq cl, 0) else (noA, 2)) := by
 have hl24 := hv.nr; have aqm := hv.nl
 obtain ⟨b, hb1, hb2⟩ := aeR t r (by omega)
 have hcap : b = aeX t r := some_inj (hb2.symm.trans (adb hv r))
 subst hcap
 refine Ok.eq ?_
 unfold pG
 simp only [xU, amQ t r (show t.aK.length ≤ 1000000 by omega), hb1, aP, nU.2 hv, abg.1 hr, decide_true, Bool.not_true, cond_false, Bool.true_and]
 rw [dJ (by simp; omega), aP]
 refine Ok.qk (fun P (m : List bu) => m = P.filterMap (ofE r) ∧ m.length ≤ P.length) ?_ _ ⟨rfl, by simp⟩ ?_
 ·rintro P x rest m Z hL ⟨hm, hml⟩ hZ
  have hP : P.length < t.Links.length := by rw [hL]; simp
  simp only [jn]
  refine Ok.cs (fun h => ?_) fun h => ?_
  ·have h : r = x.A := by simpa using h
   rw [dJ (by simp; omega), aP]
   refine hZ _ ⟨?_, by simp; omega⟩
   rw [List.filterMap_append, hm]; simp [ofE, h]
  ·have h : r ≠ x.A := by simpa using h
   refine Ok.cs (fun h2 => ?_) fun h2 => ?_
   ·have h2 : r = x.B := by simpa using h2
    rw [dJ (by simp; omega), aP]
    refine hZ _ ⟨?_, by simp; omega⟩
    have e : ofE r x = some (bu.mk x.A x.iN x.bY) := by unfold ofE; rw [if_neg h, if_pos h2]
    rw [List.filterMap_append, hm, List.filterMap_cons, e]; rfl
   ·have h2 : r ≠ x.B := by simpa using h2
    refine hZ _ ⟨?_, by simp; omega⟩
    have e : ofE r x = none := by unfold ofE; rw [if_neg h, if_neg h2]
    rw [List.filterMap_append, hm, List.filterMap_cons, e]; simp
 ·rintro m ⟨hm, _⟩
  rw [aiG hv] at hm
  subst hm
  rw [rZ, aP]
  show Ok (bif !cu (ofA t r seq cl) then _ else _) _
  cases cu (ofA t r seq cl)
  ·exact Ok.s rfl
  ·exact Ok.s rfl
def zY (f : aB) (n : aZ) (seq : Int) : ak × Bool := bif inB seq 1 1000000 then (ofA (gR f) n.aq seq n.Claims, true) else (noA, false)
theorem x3 {f : aB} (h : Vf f) {n : aZ} (hn : n ∈ f.aG) (seq : Int) : cu (ofA (gR f) n.aq seq n.Claims) = inB seq 1 1000000 := by
 rw [abQ h.t (tN hn)]
 have := (h.n n hn).2.1
 unfold lF at this
 rw [this, Bool.and_true]
theorem Vf.sm {f : aB} (h : Vf f) : SmF f := by have h1 := h.len; have h2 := h.t.nl; exact ⟨by have : f.Links.length ≤ 60 := h2; omega, by omega⟩
theorem abS {f : aB} (h : Vf f) {a b : List aZ} {n : aZ} (hL : f.aG = a ++ n :: b) (seq : Int) : nY f (a.length : Int) seq = some (zY f n seq) := by
 have hn : n ∈ f.aG := by rw [hL]; simp
 unfold nY
 rw [u0 h.sm, aP, hL, iS, aP, aiF h.t (tN hn), x3 h hn, aP]
 unfold zY
 cases inB seq 1 1000000 <;> rfl
theorem aaI {l : List bz} (h : lF l = true) : l.length ≤ 100000 := by
 simp only [lF, Bool.and_eq_true, decide_eq_true_eq] at h; omega
theorem afQ {f : aB} (h : Vf f) {n : aZ} (hn : n ∈ f.aG) : jd f n = some (bif decide (n.Seq = 0) then (noA, false) else zY f n n.Seq) := by
 unfold jd
 cases hs : decide (n.Seq = 0)
 ·simp only [cond_false]
  rw [aaH h.sm, aP, auD h.t (tN hn) n.Seq (aaI (h.n n hn).2.1), x3 h hn, aP]
  unfold zY
  cases inB n.Seq 1 1000000 <;> rfl
 ·rfl
/-! equality -/
end Go.Proofs.YtpmifmdidfgpdaaGreat

/- Plain: settled aaG, by both; the aaG of the tape. No condition but bU bB stand in each. -/
namespace Go.Proofs.YtpmifmdidfgpdaaGreat
set_option linter.all false
open Go
/-! the aaG of the tape -/
def SzF (f : aB) (n : Nat) : Prop := f.Links.length ≤ 100 ∧ f.aG.length ≤ n ∧ f.aj.length ≤ n
theorem SzF.sm {f : aB} {n : Nat} (h : SzF f n) (hn : n ≤ 1000) : SmF f := ⟨by have := h.1; omega, by have := h.2.1; omega⟩
theorem afR {t : aQ} {most : Int} (h : cE t) : Ok (lC t most) (fun p => cE p.2) := by
 unfold lC
 refine Ok.bnd (fS h (by omega)) fun p hp => ?_
 refine Ok.cs (fun _ => Ok.s hp.2) fun _ => ?_
 refine Ok.bnd (y4 hp.2 (by omega)) fun d hd => ?_
 have hl := hd.1.2.1
 refine Ok.whl (fun s : Int × List ak => (0 ≤ s.1 ∧ s.1 ≤ s.2.length) ∧ s.2.length ≤ 7) (fun s => ((s.2.length : Int) - s.1).toNat) ⟨⟨by simp, by simp⟩, hl⟩ (by simp only; omega) ?_
 rintro ⟨i, m⟩ Z ⟨⟨h0, h1⟩, h2⟩ hZ
 simp only at h0 h1 h2
 refine Ok.cs (fun hc => ?_) fun _ => Ok.s hd.2
 have hc : i < m.length := by simpa using hc
 refine Ok.bnd (pJ h0 hc) fun e _ => ?_
 refine Ok.bnd (afv h0 hc) fun l hl => ?_
 rw [cr (by omega) (by omega)]
 exact hZ _ ⟨⟨by simp only; omega, by simp only; omega⟩, by simp only; omega⟩ (by simp only; omega)
theorem adf {t : aQ} {mR most : Int} (h : cE t) (hr : 1 ≤ mR ∧ mR ≤ 8) : Ok (jK t mR most) (fun p => SzF p.1 8 ∧ cE p.2) := by
 unfold jK
 refine Ok.bnd (ady h hr) fun g hg => ?_
 obtain ⟨⟨hv, hn, _⟩, ht⟩ := hg
 have aqm := hv.nl
 refine Ok.qk (fun P (s : List aZ × List Int × Int) => s.1.length = P.length ∧ cE (aQ.mk s.2.1 s.2.2)) ?_ _ ⟨rfl, ht⟩ ?_
 ·rintro P r rest ⟨m, L, At⟩ Z hL ⟨i1, i2⟩ hZ
  have hP : P.length < g.1.aK.length := by rw [hL]; simp
  simp only at i1 i2
  refine Ok.bnd (kI i2 (by decide) (by decide)) fun p2 h2 => ?_
  refine Ok.bnd (fS h2.2 (by omega)) fun p3 h3 => ?_
  refine Ok.bnd (afR h3.2) fun p4 h4 => ?_
  refine Ok.fW (fun j (s : List bz × List Int × Int) => (s.1.length : Int) ≤ j ∧ cE (aQ.mk s.2.1 s.2.2)) 0 2 ?_ ?_ _ _ _ rfl (by omega) (by omega) ⟨by simp, h4⟩
  ·rintro j ⟨m4, m5, m6⟩ Z2 hj1 hj2 ⟨q1, q2⟩ hZ2
   simp only at q1 q2
   refine Ok.jn (fun s : List Int × Int × List bz => (s.2.2.length : Int) ≤ j + 1 ∧ cE (aQ.mk s.1 s.2.1)) (fun s hs => hZ2 _ ⟨hs.1, hs.2⟩) fun J hJ => ?_
   refine Ok.bnd (fS q2 (by omega)) fun p5 h5 => ?_
   refine Ok.cs (fun _ => ?_) fun _ => hJ _ ⟨by simp only; omega, h5.2⟩
   refine Ok.bnd (nF h5.2) fun p6 h6 => ?_
   refine Ok.bnd (abI h6.2) fun p7 h7 => ?_
   refine Ok.bnd (ia (by simp; omega)) fun l hl => hJ _ ⟨by simp only; rw [hl.2]; simp; omega, h7.2⟩
  ·rintro j ⟨m4, m5, m6⟩ hj1 hj2 ⟨q1, q2⟩
   refine Ok.bnd (ia (by simp; omega)) fun l hl => hZ _ ⟨by simp only; rw [hl.2]; simp; omega, q2⟩
 ·rintro ⟨m, L, At⟩ ⟨i1, i2⟩
  simp only at i1 i2
  refine Ok.bnd (fS i2 (by omega)) fun p8 h8 => ?_
  have h84 := h8.1.2.1 (by omega)
  refine Ok.whl (fun s : Int × List br × List Int × Int => ((s.2.1.length : Int) + s.1 ≤ 4 ∧ s.1 ≤ 4 ∧ (0 ≤ s.1 ∨ s.1 ≤ 0)) ∧ s.2.1.length ≤ 8 ∧ cE (aQ.mk s.2.2.1 s.2.2.2)) (fun s => s.1.toNat) ⟨⟨by simp; omega, by simp only; omega, by simp only; omega⟩, by simp, h8.2⟩ (by simp only; omega) ?_
  rintro ⟨i, m10, m11, m12⟩ Z ⟨⟨q1, q1', _⟩, q2, q3⟩ hZ
  simp only at q1 q1' q2 q3
  refine Ok.cs (fun hc => ?_) fun _ => Ok.s ⟨⟨by show g.1.Links.length ≤ _; omega, by show m.length ≤ _; omega, q2⟩, q3⟩
  simp only [Bool.and_eq_true, decide_eq_true_eq] at hc
  refine Ok.bnd (fS q3 (by omega)) fun p9 h9 => ?_
  have h9n := h9.1.2.1 (by omega)
  have h90 := h9.1.1
  refine Ok.bnd (nF h9.2) fun p10 h10 => ?_
  rw [cr (n := (g.1.aK.length : Int) - 1) (by omega) (by omega)] at h10
  have h10 := And.intro (h10.1 (by omega) (by omega) (by omega)) h10.2
  refine Ok.bnd (afz (by omega)) fun p11 h11 => ?_
  have h11n := h11.2.1 (by omega)
  refine Ok.bnd (pJ h90 h9n) fun e1 _ => ?_
  refine Ok.bnd (pJ h11.1 h11n) fun e2 _ => ?_
  refine Ok.bnd (afR h10.2) fun p12 h12 => ?_
  refine Ok.bnd (ia (by simp; omega)) fun l hl => ?_
  rw [cr (by omega) (by omega)]
  have hl2 := hl.2
  simp only [List.length_cons, List.length_nil] at hl2
  exact hZ _ ⟨⟨by simp only; omega, by simp only; omega, by simp only; omega⟩, by simp only; omega, h12⟩ (by simp only; omega)
theorem aiH {t : aQ} {f : aB} {n : Int} (h : cE t) (hf : SzF f 8) (hn : n ≤ 9223372036854775807) : Ok (nS t f n) (fun p => (SmF p.1 ∧ p.1.aj.length ≤ 9 ∧ p.1.aG.length ≤ 9) ∧ cE p.2) := by
 obtain ⟨f1, f2, f3⟩ := hf
 unfold nS
 refine Ok.bnd (vP h hn) fun p1 h1 => ?_
 refine Ok.cs (fun _ => Ok.s ⟨⟨⟨by show f.Links.length ≤ _; omega, by show f.aG.length ≤ _; omega⟩, by show f.aj.length ≤ _; omega, by show f.aG.length ≤ _; omega⟩, h1⟩) fun _ => ?_
 refine Ok.jn (fun s : List Int × Int × List aT × List aZ × List br => (s.2.2.1.length ≤ 101 ∧ s.2.2.2.1.length ≤ 9 ∧ s.2.2.2.2.length ≤ 9) ∧ cE (aQ.mk s.1 s.2.1)) (fun s hs => ?_) fun J hJ => ?_
 ·obtain ⟨m1, m2, m3, m4, m5⟩ := s
  obtain ⟨⟨q1, q2, q3⟩, q4⟩ := hs
  simp only at q1 q2 q3 q4
  exact Ok.s ⟨⟨⟨by show m3.length ≤ _; omega, by show m4.length ≤ _; omega⟩, q3, q2⟩, q4⟩
 refine Ok.bnd (fS h1 (by omega)) fun p2 h2 => ?_
 have whole : ∀ {α : Type} (l : List α), Ok (kX l 0 (l.length : Int)) (fun m => m.length = l.length) := fun l => (aax ⟨by omega, by omega, by omega⟩).mono fun m hm => by have := hm.2; omega
 refine Ok.cs (fun _ => ?_) fun _ => ?_
 ·refine Ok.bnd (whole f.Links) fun l1 e1 => ?_
  exact Ok.bnd (ia (by simp; omega)) fun l2 e2 => hJ _ ⟨⟨by simp only; rw [e2.2]; simp; omega, by simp only; omega, by simp only; omega⟩, h2.2⟩
 refine Ok.cs (fun _ => ?_) fun _ => ?_
 ·refine Ok.bnd (whole f.aG) fun l1 e1 => ?_
  refine Ok.bnd (fS h2.2 (by omega)) fun p3 h3 => Ok.bnd (yD h3.2) fun p4 h4 => ?_
  exact Ok.bnd (ia (by simp; omega)) fun l2 e2 => hJ _ ⟨⟨by simp only; omega, by simp only; rw [e2.2]; simp; omega, by simp only; omega⟩, h4⟩
 refine Ok.cs (fun _ => ?_) fun _ => ?_
 ·refine Ok.bnd (whole f.aj) fun l1 e1 => ?_
  refine Ok.bnd (fS h2.2 (by omega)) fun p3 h3 => Ok.bnd (fS h3.2 (by omega)) fun p4 h4 => ?_
  exact Ok.bnd (ia (by simp; omega)) fun l2 e2 => hJ _ ⟨⟨by simp only; omega, by simp only; omega, by simp only; rw [e2.2]; simp; omega⟩, h4.2⟩
 refine Ok.cs (fun _ => ?_) fun _ => ?_
 ·refine Ok.bnd (whole f.aG) fun l1 e1 => ?_
  refine Ok.bnd (y4 h2.2 (by omega)) fun p3 h3 => ?_
  exact Ok.bnd (ia (by simp; omega)) fun l2 e2 => hJ _ ⟨⟨by simp only; omega, by simp only; rw [e2.2]; simp; omega, by simp only; omega⟩, h3.2⟩
 ·refine Ok.bnd (whole f.aG) fun l1 e1 => ?_
  refine Ok.bnd (fS h2.2 (by omega)) fun p3 h3 => Ok.bnd (kI h3.2 (by decide) (by decide)) fun p4 h4 => ?_
  exact Ok.bnd (ia (by simp; omega)) fun l2 e2 => hJ _ ⟨⟨by simp only; omega, by simp only; rw [e2.2]; simp; omega, by simp only; omega⟩, h4.2⟩
end Go.Proofs.YtpmifmdidfgpdaaGreat

/- Plain: nodes ajX vQ, send and deliver, by both. No condition but bU bB stand in each. -/
namespace Go.Proofs.YtpmifmdidfgpdaaGreat
set_option linter.all false
open Go
theorem vT {d : aD} (hd : SmD d) : dD d = some d := by
 refine Ok.eq ?_
 unfold dD
 refine Ok.qk (fun P (m : List ak) => m = P) ?_ _ rfl (fun m hm => Ok.s (by rw [hm]))
 rintro P x r m Z hL rfl hZ
 have hx : x ∈ d.az := by rw [hL]; simp
 have hl : m.length < d.az.length := by rw [hL]; simp
 have := hd.1
 rw [afH (hd.2 x hx).1, aP, ac2 (hd.2 x hx).2, aP, dJ (by simp; omega), aP]
 exact hZ _ rfl
theorem adg {f : aB} (h : Vf f) : ff f = some f := by
 refine Ok.eq ?_
 unfold ff
 have hs := h.sm
 rw [ad0 hs.1, aP]
 refine Ok.qk (fun P (m : List aZ) => m = P) ?_ _ rfl ?_
 ·rintro P x r m Z hL rfl hZ
  have hx : x ∈ f.aG := by rw [hL]; simp
  have hl : m.length < f.aG.length := by rw [hL]; simp
  have h1 := hs.2
  have hn := h.n x hx
  rw [ac2 (aaI hn.2.1), aP, vT hn.2.2.sm, aP, dJ (by simp; omega), aP]
  exact hZ _ rfl
 ·rintro m rfl
  refine Ok.qk (fun P (m : List br) => m = P) ?_ _ rfl (fun m hm => Ok.s (by rw [hm]))
  rintro P x r m Z hL rfl hZ
  have hx : x ∈ f.aj := by rw [hL]; simp
  have hl : m.length < f.aj.length := by rw [hL]; simp
  have h1 := h.m
  rw [vT (h.g x hx).2.2.2.sm, aP, dJ (by simp; omega), aP]
  exact hZ _ rfl
/-! a node in place of adK one -/
def kr (f : aB) (a : List aZ) (n : aZ) (b : List aZ) : aB := aB.mk f.Links (a ++ n :: b) f.aj
theorem x4 {f : aB} {a b : List aZ} {n n' : aZ} (hL : f.aG = a ++ n :: b) (hr : n'.aq = n.aq) (hc : n'.aW = n.aW) : gR (kr f a n' b) = gR f := by
 unfold gR kr
 rw [hL]; simp [hr, hc]
theorem adh (r : Int) : ∀ (l m : List aZ) (j : Nat), l.map (·.aq) = m.map (·.aq) → th r l j = th r m j
 | [], [], _, _ => rfl
 | [], _ :: _, _, h => by simp at h
 | _ :: _, [], _, h => by simp at h
 | x :: l, y :: m, j, h => by
  simp only [List.map_cons, List.cons.injEq] at h
  simp only [th, h.1, adh r l m (j + 1) h.2]
theorem adi {f : aB} {a b : List aZ} {n n' : aZ} (hL : f.aG = a ++ n :: b) (hr : n'.aq = n.aq) (r : Int) : gT (kr f a n' b) r = gT f r := by
 unfold gT kr
 exact adh r _ _ 0 (by rw [hL]; simp [hr])
theorem Vf.kr {f : aB} (h : Vf f) {a b : List aZ} {n n' : aZ} (hL : f.aG = a ++ n :: b) (hr : n'.aq = n.aq) (hc : n'.aW = n.aW) (hn : (0 ≤ n'.Seq ∧ n'.Seq ≤ 1000000) ∧ lF n'.Claims = true ∧ Vd n'.Database) : Vf (kr f a n' b) := by
 refine ⟨by rw [x4 hL hr hc]; exact h.t, h.m, fun x hx => ?_, fun m hm => ?_⟩
 ·have hx : x ∈ a ++ n' :: b := hx
  rcases List.mem_append.1 hx with hx | hx
  ·exact h.n x (by rw [hL]; simp [hx])
  ·rcases List.mem_cons.1 hx with rfl | hx
   ·exact hn
   ·exact h.n x (by rw [hL]; simp [hx])
 ·have := h.g m hm
  rw [adi hL hr, adi hL hr]; exact this
theorem x5 (f : aB) (a b : List aZ) (n n' : aZ) : Go.Proofs.YtpmifmdidfgpdaaGreat.kr (Go.Proofs.YtpmifmdidfgpdaaGreat.kr f a n b) a n' b = Go.Proofs.YtpmifmdidfgpdaaGreat.kr f a n' b := rfl
theorem yL {α : Type} (p : List α) (x y : α) (r : List α) : iV (p ++ x :: r) (p.length : Int) y = some (p ++ y :: r) := by
 unfold iV
 rw [if_pos ⟨by omega, by simp; omega⟩]
 simp
/-- the own vS put va the own database -/
def adj (f : aB) (n : aZ) : aZ := aZ.mk n.aq n.Seq n.aW n.Claims (tg n.Database (ofA (gR f) n.aq n.Seq n.Claims)).1
theorem afT {f : aB} (h : Vf f) {n : aZ} (hn : n ∈ f.aG) {seq : Int} (hs : 1 ≤ seq ∧ seq ≤ 1000000) : cu (ofA (gR f) n.aq seq n.Claims) = true := by
 rw [x3 h hn]; simp [inB]; omega
theorem aqn {f : aB} (h : Vf f) {a b : List aZ} {n : aZ} (hL : f.aG = a ++ n :: b) (hs : 1 ≤ n.Seq) : dB (aO.mk f) (a.length : Int) = some (aO.mk (kr f a (adj f n) b)) := by
 have hn : n ∈ f.aG := by rw [hL]; simp
 have hno := h.n n hn
 have hv := afT h hn (seq := n.Seq) ⟨hs, hno.1.2⟩
 unfold dB
 have e0 : decide (n.Seq = 0) = false := by simp; omega
 have e1 : inB n.Seq 1 1000000 = true := by simp [inB]; omega
 simp only [hL, iS, aP]
 simp only [afQ h hn, e0, cond_false, zY, e1, cond_true, aP]
 rw [aqi hno.2.2.sm (Va.sm hv), if_pos ⟨jW.2 hno.2.2, hv⟩, aP, yL, aP]
 rfl
theorem aaJ {f : aB} {a b : List aZ} {n : aZ} (hL : f.aG = a ++ n :: b) (hl : f.aG.length ≤ 100000) (n' : aZ) : mO f (a.length : Int) n' = some (kr f a n' b) := by
 unfold mO
 rw [dJ (by simp; omega), aP, List.nil_append, hL, iS, aP, yL, aP]; rfl
theorem adA {f : aB} (h : Vf f) {a b : List aZ} {n : aZ} (hL : f.aG = a ++ n :: b) {seq : Int} (hs : 1 ≤ seq ∧ seq ≤ 1000000) : jU f (a.length : Int) seq = some (kr f a (adj f (aZ.mk n.aq seq n.aW n.Claims n.Database)) b) := by
 have hn : n ∈ f.aG := by rw [hL]; simp
 have hno := h.n n hn
 have hv := afT h hn hs
 have e1 : inB seq 1 1000000 = true := by simp [inB]; omega
 unfold jU
 rw [show elO f.aG (a.length : Int) = some n by rw [hL]; exact iS a n b, aP, abS h hL, aP]
 simp only [zY, e1, cond_true]
 rw [abO, if_pos ⟨jW.2 hno.2.2, hv⟩, aP, aaJ hL (by have := h.len; omega), aP]
 rfl
theorem Vf.pub {f : aB} (h : Vf f) {a b : List aZ} {n n0 : aZ} (hL : f.aG = a ++ n0 :: b) (hr : n.aq = n0.aq) (hc : n.aW = n0.aW) (hs : 1 ≤ n.Seq ∧ n.Seq ≤ 1000000) (hcl : lF n.Claims = true) (hd : Vd n.Database) : Vf (Go.Proofs.YtpmifmdidfgpdaaGreat.kr f a (adj f n) b) := by
 refine h.kr hL hr hc ⟨⟨by have := hs.1; show 0 ≤ n.Seq; omega, hs.2⟩, hcl, ?_⟩
 refine hd.put ?_
 have hn0 : n0 ∈ f.aG := by rw [hL]; simp
 rw [hr, abQ h.t (tN hn0)]
 have e1 : inB n.Seq 1 1000000 = true := by simp [inB]; omega
 unfold lF at hcl
 rw [e1, hcl]; rfl
/-! begin and message -/
theorem afU {f : aB} (h : Vf f) {a b : List aZ} {n : aZ} (hL : f.aG = a ++ n :: b) : gy f n.aq = some (aO.mk f, (a.length : Int), 0) := by
 unfold gy
 have e : decide (0 ≤ (a.length : Int)) = true := by simp
 simp only [wT h.sm, uF.2 h, abt, h.idx hL, e, aP, cond_true, decide_true, Bool.not_true, cond_false, adg h]
theorem sy {f : aB} (h : Vf f) {k : Int} (hk : 0 ≤ k ∧ k < f.aj.length) : dg f k = some (aO.mk f, 0) := by
 unfold dg
 have e1 : decide (k < 0) = false := by simp; omega
 have e2 : decide ((f.aj.length : Int) ≤ k) = false := by simp; omega
 simp only [wT h.sm, uF.2 h, e1, e2, aP, cond_true, decide_true, Bool.not_true, Bool.or_self, cond_false, adg h]
theorem nZ {f : aB} (h : SmF f) (hv : oN f = false) (k : Int) : dg f k = none ∧ dN f k = some 1 := by
 unfold dg dN
 simp only [wT h, hv, aP, cond_false]
 exact ⟨rfl, rfl⟩
theorem n4 {f : aB} (h : Vf f) {k : Int} (hk : ¬ (0 ≤ k ∧ k < f.aj.length)) : dg f k = none ∧ dN f k = some 4 := by
 have e : (decide (k < 0) || decide ((f.aj.length : Int) ≤ k)) = true := by simp; omega
 unfold dg dN
 simp only [wT h.sm, uF.2 h, e, aP, cond_true]
 exact ⟨rfl, rfl⟩
theorem wU : SmF (aB.mk [] [] []) := ⟨by simp, by simp⟩
theorem ajY {f : aB} (h : SmF f) (M : List br) : SmF (aB.mk f.Links f.aG M) := ⟨h.1, h.2⟩
/-! Originate, Restart -/
/-! Send -/
def aeZ (f : aB) (n : aZ) : List br := (jl (gR f) n.aq).map fun x => br.mk n.aq x n.Database
theorem am3 {f : aB} (h : Vf f) {a b : List aZ} {n : aZ} (hL : f.aG = a ++ n :: b) (M : List br) (hM : M.length ≤ 5000) : eU (aO.mk (aB.mk f.Links f.aG M)) (a.length : Int) = some (aO.mk (aB.mk f.Links f.aG (M ++ aeZ f n))) := by
 have hn : n ∈ f.aG := by rw [hL]; simp
 have e1 : elO f.aG (a.length : Int) = some n := by rw [hL]; exact iS a n b
 unfold eU
 have ht : dO (aB.mk f.Links f.aG M) = some (gR f) := aaH (f := aB.mk f.Links f.aG M) h.sm
 simp only [e1, aP, ht, abi, nU.2 h.t, if_true, vT (h.n n hn).2.2.sm]
 have h23 := zX h.t (tN hn)
 rw [uZ (fun x : Int => br.mk n.aq x n.Database) _ 0 M (by omega)]
 rfl
/-! Lose, Double -/
def nG (f : aB) (p q : List br) : aB := aB.mk f.Links f.aG (p ++ q)
theorem zZ {α : Type} {l : List α} {k : Int} (hk : 0 ≤ k ∧ k < l.length) : ∃ p x q, l = p ++ x :: q ∧ k = (p.length : Int) := by
 have h : k.toNat < l.length := by omega
 refine ⟨l.take k.toNat, l[k.toNat], l.drop (k.toNat + 1), ?_, by simp; omega⟩
 rw [← List.drop_eq_getElem_cons h, List.take_append_drop]
theorem ad2 {α : Type} (p : List α) (x : α) (q : List α) (hl : (p ++ x :: q).length ≤ 100000) : wj (p ++ x :: q) (p.length : Int) (w64 ((p.length : Int) + 1)) = some (p ++ q) := by
 have hl2 : p.length + q.length + 1 ≤ 100000 := by simpa [Nat.add_assoc] using hl
 rw [cr (by omega) (by omega)]
 unfold wj
 rw [if_pos ⟨by omega, by omega, by simp; omega⟩]
 rw [Int.toNat_natCast, show ((p.length : Int) + 1).toNat = p.length + 1 by omega]
 simp
theorem xb {f : aB} {p q : List br} {x : br} (hL : f.aj = p ++ x :: q) (hl : f.aj.length ≤ 100000) : jJ f (p.length : Int) = some (nG f p q) := by
 have hp : p.length + q.length + 1 = f.aj.length := by rw [hL]; simp; omega
 unfold jJ
 rw [cr (by omega) (by omega)]
 have s1 : kX f.aj 0 (p.length : Int) = some p := by
  unfold kX; rw [if_pos ⟨by omega, by omega, by omega⟩, hL]; simp
 have s2 : kX f.aj ((p.length : Int) + 1) (f.aj.length : Int) = some q := by
  unfold kX; rw [if_pos ⟨by omega, by omega, by omega⟩]
  rw [Int.toNat_natCast, List.take_length, show ((p.length : Int) + 1).toNat = p.length + 1 by omega, hL]
  simp
 rw [s1, aP, dJ (by simp; omega), aP, s2, aP, dJ (by simp; omega), aP]
 rfl
theorem afV {f : aB} (h : SmF f) (k : Int) : ∃ p, lU f k = some p ∧ oK f k = some p ∧ SmF p.1 := by
 unfold lU oK
 rw [vm h]
 cases hv : oN f
 ·rw [(nZ h hv k).1, (nZ h hv k).2]; exact ⟨_, rfl, rfl, wU⟩
 ·have hf := uF.1 hv
  by_cases hk : 0 ≤ k ∧ k < f.aj.length
  ·obtain ⟨p, x, q, hL, rfl⟩ := zZ hk
   have e : (decide ((p.length : Int) < 0) || decide ((f.aj.length : Int) ≤ p.length)) = false := by simp; omega
   have hm := hf.m
   rw [sy hf hk]
   simp only [els, e, aP, decide_true, Bool.not_true, cond_false, xb hL (by omega)]
   rw [show wj f.aj (p.length : Int) (w64 ((p.length : Int) + 1)) = some (p ++ q) by rw [hL]; exact ad2 p x q (by rw [← hL]; omega), aP]
   exact ⟨_, rfl, rfl, ajY h _⟩
  ·have e : (decide (k < 0) || decide ((f.aj.length : Int) ≤ k)) = true := by simp; omega
   rw [(n4 hf hk).1, (n4 hf hk).2]
   simp only [els, e, aP, cond_true]; exact ⟨_, rfl, rfl, wU⟩
theorem adB {f : aB} (h : SmF f) (k : Int) : ∃ p, fG f k = some p ∧ mQ f k = some p ∧ SmF p.1 := by
 unfold fG mQ
 rw [vm h]
 cases hv : oN f
 ·rw [(nZ h hv k).1, (nZ h hv k).2]; exact ⟨_, rfl, rfl, wU⟩
 ·have hf := uF.1 hv
  by_cases hk : 0 ≤ k ∧ k < f.aj.length
  ·obtain ⟨p, x, q, hL, rfl⟩ := zZ hk
   have e : (decide ((p.length : Int) < 0) || decide ((f.aj.length : Int) ≤ p.length)) = false := by simp; omega
   have hm := hf.m
   have hx : x ∈ f.aj := by rw [hL]; simp
   have e1 : elO f.aj (p.length : Int) = some x := by rw [hL]; exact iS p x q
   rw [sy hf hk]
   simp only [els, e, e1, aP, decide_true, Bool.not_true, cond_false, vT (hf.g x hx).2.2.2.sm]
   cases decide ((f.aj.length:Int) = (400:Int))
   ·simp only [cond_false]
    rw [dJ (l := []) (r := f.aj) (by simp; omega), aP, List.nil_append, dJ (by simp; omega), aP]
    exact ⟨_, rfl, rfl, ajY h _⟩
   ·exact ⟨_, rfl, rfl, wU⟩
  ·have e : (decide (k < 0) || decide ((f.aj.length : Int) ≤ k)) = true := by simp; omega
   rw [(n4 hf hk).1, (n4 hf hk).2]
   simp only [els, e, aP, cond_true]; exact ⟨_, rfl, rfl, wU⟩
/-! aaG are equal to themselves -/
theorem wV (f : aB) (h : SmF f) : kP f f = some true := by
 unfold kP
 simp only [jn, u0 h, aP, afC, Bool.not_true, cond_false, decide_true]
 refine Ok.eq ?_
 refine Ok.qk (fun _ _ => True) ?_ _ trivial fun _ _ => ?_
 ·intro p n r s Z hL _ hZ
  rw [show elO f.aG (p.length : Int) = some n by rw [hL]; exact iS p n r]
  simp only [aP, decide_true, aaz, aaF, Bool.not_true, cond_false]
  refine Ok.qk (fun _ _ => True) ?_ _ trivial fun _ _ => hZ _ trivial
  intro p2 c r2 s2 Z2 hL2 _ hZ2
  rw [show elO n.Claims (p2.length : Int) = some c by rw [hL2]; exact iS p2 c r2, aP, w9]
  exact hZ2 _ trivial
 ·refine Ok.qk (fun _ _ => True) ?_ _ trivial fun _ _ => Ok.s rfl
  intro p m r s Z hL _ hZ
  rw [show elO f.aj (p.length : Int) = some m by rw [hL]; exact iS p m r]
  simp only [aP, decide_true, aaz, aaF, Bool.not_true, cond_false]
  exact hZ _ trivial
end Go.Proofs.YtpmifmdidfgpdaaGreat

/- Plain: messages are afW, by both. No condition but bU bB stand in each. -/
namespace Go.Proofs.YtpmifmdidfgpdaaGreat
set_option linter.all false
open Go
theorem Vf.drop {f : aB} (h : Vf f) {p q : List br} {x : br} (hL : f.aj = p ++ x :: q) : Vf (nG f p q) := by
 refine ⟨h.t, ?_, h.n, fun m hm => ?_⟩
 ·have := h.m; rw [hL] at this; show (p ++ q).length ≤ 400; simp at this ⊢; omega
 ·have hm : m ∈ p ++ q := hm
  exact h.g m (by rw [hL]; rcases List.mem_append.1 hm with hm | hm <;> simp [hm])
theorem adk {f : aB} (h : Vf f) {p q : List br} {x : br} (hL : f.aj = p ++ x :: q) :
  ∃ g, ep (aO.mk f) (p.length : Int) = some (aO.mk g) ∧ mP (nG f p q) x = some g ∧ Vf g ∧ g.aj = p ++ q ∧ g.aG.length = f.aG.length := by
 have hx : x ∈ f.aj := by rw [hL]; simp
 have hm := h.m
 have h1 := h.drop hL
 obtain ⟨g1, g2, g3, g4⟩ := h.g x hx
 have aqm : f.Links.length ≤ 60 := h.t.nl
 have hl24 := h.len
 have ht : gR (nG f p q) = gR f := rfl
 have e1 : elO f.aj (p.length : Int) = some x := by rw [hL]; exact iS p x q
 have e2 : wj f.aj (p.length : Int) (w64 ((p.length : Int) + 1)) = some (p ++ q) := by
  rw [hL]; exact ad2 p x q (by rw [← hL]; omega)
 unfold ep mP
 simp only [e1, e2, aP]
 rw [show aB.mk f.Links f.aG (p ++ q) = nG f p q from rfl, aaH h1.sm, u0 h1.sm]
 have ab8 : jG (gR f) x.gM x.To = some (pK (gR f) x.gM x.To) := by
  rw [aip (gR f) x.gM x.To (show f.Links.length ≤ 1000000 by omega), nU.2 h.t]; rfl
 simp only [aP, ht, ab8, xW]
 cases hc : (pK (gR f) x.gM x.To).2
 ·exact ⟨_, rfl, rfl, h1, rfl, rfl⟩
 ·simp only [Bool.not_true, cond_false, abt, abR, aP]
  have hi : gT (nG f p q) x.To = gT f x.To := rfl
  rw [hi]
  rcases wR f x.To with ⟨h2, _⟩ | ⟨a, n, b, hN, h2, h3⟩
  ·omega
  ·have hn : n ∈ f.aG := by rw [hN]; simp
   have hno := h.n n hn
   have hel : elO f.aG (a.length : Int) = some n := by rw [hN]; exact iS a n b
   have hel2 : elO (nG f p q).aG (a.length : Int) = some n := hel
   have mA : ∀ y, iV f.aG (a.length : Int) y = some (a ++ y :: b) := fun y => by rw [hN]; exact yL a n y b
   have hN1 : (nG f p q).aG = a ++ n :: b := hN
   have hvd := hno.2.2.merge g4
   simp only [h2, hel, hel2, aP, aiE hno.2.2.sm, adx, jW.2 hno.2.2, jW.2 g4, and_self, if_true, mA, iS]
   rw [aaJ hN1 (by show f.aG.length ≤ _; omega), aP]
   generalize hd1 : aaE n.Database x.Database = d1 at hvd
   have hV2 : Vf (kr (nG f p q) a (aZ.mk n.aq n.Seq n.aW n.Claims d1) b) := h1.kr hN1 rfl rfl ⟨hno.1, hno.2.1, hvd⟩
   have auE : (a ++ n :: b).length = f.aG.length := by rw [hN]
   have mC : ∀ n' : aZ, (kr (nG f p q) a n' b).aG.length = f.aG.length := fun n' => by rw [← auE]; simp [kr]
   rw [show aB.mk f.Links (a ++ aZ.mk n.aq n.Seq n.aW n.Claims d1 :: b) (p ++ q) = kr (nG f p q) a (aZ.mk n.aq n.Seq n.aW n.Claims d1) b from rfl]
   generalize hf2 : kr (nG f p q) a (aZ.mk n.aq n.Seq n.aW n.Claims d1) b = f2 at hV2
   have hN2 : f2.aG = a ++ aZ.mk n.aq n.Seq n.aW n.Claims d1 :: b := by rw [← hf2]; rfl
   have auF : aZ.mk n.aq n.Seq n.aW n.Claims d1 ∈ f2.aG := by rw [hN2]; simp
   have hM2 : f2.aj = p ++ q := by rw [← hf2]; rfl
   have aqo : f2.aG.length = f.aG.length := by rw [← hf2]; exact mC _
   simp only [amW hvd.sm, aaA, aP, afQ hV2 auF, abS hV2 hN2, ← h3, jn, amV, aay]
   rcases rH d1 n.aq with ⟨ha, hha, _, hfa⟩ | ⟨_, hfa⟩
   ·rw [hfa]
    have hav := hvd.ok ha hha
    have ap8 : 1 ≤ ha.Seq ∧ ha.Seq ≤ 1000000 := by
     simp only [cu, inB, Bool.and_eq_true, decide_eq_true_eq] at hav; omega
    simp only [cond_true, Bool.not_true, cond_false]
    rw [cr (n := ha.Seq + 1) (by omega) (by omega)]
    -- what is done if a new vS is to be issued
    have ajX : ha.Seq < 1000000 → ∃ g, (bnd (iV (a ++ aZ.mk n.aq n.Seq n.aW n.Claims d1 :: b) (a.length : Int) (aZ.mk n.aq (ha.Seq + 1) n.aW n.Claims d1)) fun (l_3 : List aZ) => bnd (dB (aO.mk (aB.mk f.Links l_3 (p ++ q))) (a.length : Int)) fun (cQ : aO) => some cQ) = some (aO.mk g) ∧ (bnd (jU f2 (a.length : Int) (ha.Seq + 1)) fun (dA : aB) => some dA) = some g ∧ Vf g ∧ g.aj = p ++ q ∧ g.aG.length = f.aG.length := fun hlt => by
     have hV3 : Vf (kr (nG f p q) a (aZ.mk n.aq (ha.Seq + 1) n.aW n.Claims d1) b) := h1.kr hN1 rfl rfl ⟨⟨by show 0 ≤ ha.Seq + 1; omega, by show ha.Seq + 1 ≤ 1000000; omega⟩, hno.2.1, hvd⟩
     have hp := aqn hV3 (a := a) (b := b) (n := aZ.mk n.aq (ha.Seq + 1) n.aW n.Claims d1) rfl (by show 1 ≤ ha.Seq + 1; omega)
     rw [yL, aP, show aB.mk f.Links (a ++ aZ.mk n.aq (ha.Seq + 1) n.aW n.Claims d1 :: b) (p ++ q) = kr (nG f p q) a (aZ.mk n.aq (ha.Seq + 1) n.aW n.Claims d1) b from rfl, hp, aP, adA hV2 hN2 (by omega), aP]
     have et3 : gR (kr (nG f p q) a (aZ.mk n.aq (ha.Seq + 1) n.aW n.Claims d1) b) = gR f := x4 hN1 rfl rfl
     have et2 : gR f2 = gR f := by rw [← hf2]; exact x4 hN1 rfl rfl
     refine ⟨_, rfl, ?_, ?_, rfl, mC _⟩
     ·rw [← hf2, x5, x5]
      unfold adj
      rw [et3]
      rw [hf2, et2]
     ·rw [x5]
      have := h1.pub hN1 (n := aZ.mk n.aq (ha.Seq + 1) n.aW n.Claims d1) rfl rfl (by show 1 ≤ ha.Seq + 1 ∧ ha.Seq + 1 ≤ 1000000; omega) hno.2.1 hvd
      unfold adj at this ⊢
      rw [et3]
      exact this
    have stay : ∃ g, (some (aO.mk f2) : Option aO) = some (aO.mk g) ∧ (some f2 : Option aB) = some g ∧ Vf g ∧ g.aj = p ++ q ∧ g.aG.length = f.aG.length := ⟨f2, rfl, rfl, hV2, hM2, aqo⟩
    have ab9 : ∃ g, (bif decide (ha.Seq < 1000000) then (bnd (iV (a ++ aZ.mk n.aq n.Seq n.aW n.Claims d1 :: b) (a.length : Int) (aZ.mk n.aq (ha.Seq + 1) n.aW n.Claims d1)) fun (l_3 : List aZ) => bnd (dB (aO.mk (aB.mk f.Links l_3 (p ++ q))) (a.length : Int)) fun (cQ : aO) => some cQ) else some (aO.mk f2)) = some (aO.mk g) ∧ (bif decide ((1000000:Int) < ha.Seq + 1) then some f2 else (bnd (jU f2 (a.length : Int) (ha.Seq + 1)) fun (dA : aB) => some dA)) = some g ∧ Vf g ∧ g.aj = p ++ q ∧ g.aG.length = f.aG.length := by
     by_cases hlt : ha.Seq < 1000000
     ·have e : ¬ 1000000 < ha.Seq + 1 := by omega
      simp only [hlt, e, decide_true, decide_false, cond_true, cond_false]
      exact ajX hlt
     ·have e : 1000000 < ha.Seq + 1 := by omega
      simp only [hlt, e, decide_true, decide_false, cond_true, cond_false]
      exact stay
    by_cases hs0 : n.Seq = 0
    ·have e : ¬ 0 < n.Seq := by omega
     simp only [hs0, Int.lt_irrefl, decide_true, decide_false, cond_true, cond_false, Bool.not_false]
     rw [hs0] at ab9
     exact ab9
    ·have e : 0 < n.Seq := by omega
     simp only [hs0, e, decide_true, decide_false, cond_true, cond_false]
     generalize zY f2 (aZ.mk n.aq n.Seq n.aW n.Claims d1) n.Seq = ow
     cases ow.2
     ·exact ab9
     ·simp only [Bool.not_true, cond_false, cond_true]
      cases sv ha ow.1
      ·exact ab9
      ·exact stay
   ·rw [hfa]
    exact ⟨f2, rfl, rfl, hV2, hM2, aqo⟩
theorem abX {f : aB} (h : SmF f) (k : Int) : ∃ p, jB f k = some p ∧ lV f k = some p ∧ SmF p.1 := by
 unfold jB lV
 rw [vm h]
 cases hv : oN f
 ·rw [(nZ h hv k).1, (nZ h hv k).2]; exact ⟨_, rfl, rfl, wU⟩
 ·have hf := uF.1 hv
  by_cases hk : 0 ≤ k ∧ k < f.aj.length
  ·obtain ⟨p, x, q, hL, rfl⟩ := zZ hk
   have e : (decide ((p.length : Int) < 0) || decide ((f.aj.length : Int) ≤ p.length)) = false := by simp; omega
   have hm := hf.m
   have e1 : elO f.aj (p.length : Int) = some x := by rw [hL]; exact iS p x q
   obtain ⟨g, d1, d2, d3, _⟩ := adk hf hL
   rw [sy hf hk]
   simp only [els, e, e1, aP, decide_true, Bool.not_true, cond_false, xb hL (by omega), d1, d2]
   exact ⟨_, rfl, rfl, d3.sm⟩
  ·have e : (decide (k < 0) || decide ((f.aj.length : Int) ≤ k)) = true := by simp; omega
   rw [(n4 hf hk).1, (n4 hf hk).2]
   simp only [els, e, aP, cond_true]; exact ⟨_, rfl, rfl, wU⟩
end Go.Proofs.YtpmifmdidfgpdaaGreat

/- Plain: rounds, by both. No condition but bU bB stand in each. -/
namespace Go.Proofs.YtpmifmdidfgpdaaGreat
set_option linter.all false
open Go
/-! all messages are afW -/
/-! how many messages are sent in all -/
end Go.Proofs.YtpmifmdidfgpdaaGreat
