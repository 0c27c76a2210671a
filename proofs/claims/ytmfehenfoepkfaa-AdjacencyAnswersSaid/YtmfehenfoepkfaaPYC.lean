/- Plain: yU: the two texts of Validate, Fits, Own, Find, Same. No condition but bR bw stand in each. -/
import Derived.Test.YtmfehenfoepkfaaPYA
import Derived.Test.YtmfehenfoepkfaaPYB
import Derived.Test.YtmfehenfoepkfaaPM
import Derived.Test.YtmfehenfoepkfaaDA
namespace Go.Proofs.Ytmfehenfoepkfaa
set_option linter.all false
open Go
/-- a loop along a list, with what is so of the state behind what was ac1 -/
theorem mU {α σ β : Type} {B : Int → α → (σ → Option β) → σ → Option β} {K : σ → Option β} {L : List α} (I : List α → σ → Prop) (f : List α → List α → Option β) (hn : ∀ s, I L s → K s = f L [])
  (hc : ∀ p x r s Z, p ++ x :: r = L → I p s → (∀ s', I (p ++ [x]) s' → Z s' = f (p ++ [x]) r) → B (p.length : Int) x Z s = f p (x :: r)) : ∀ (l p : List α) (s : σ), p ++ l = L → I p s → bn l p.length B K s = f p l
 | [], p, s, h, hi => by rw [List.append_nil] at h; subst h; exact hn s hi
 | x :: r, p, s, h, hi => hc p x r s _ h hi fun s' hs => by
   have := mU (B := B) (K := K) I f hn hc r (p ++ [x]) s' (by simpa using h) hs
   rw [List.length_append] at this
   exact this
theorem abb {α : Type} {L p r : List α} {x : α} (h : p ++ x :: r = L) : l9 L 0 (p.length : Int) = some p := by
 unfold l9
 rw [if_pos ⟨by omega, by omega, by rw [← h]; simp; omega⟩, ← h]
 simp
def nG (n : Int) : Bool := decide (n = 8) || (decide (n = 16) || (decide (n = 32) || decide (n = 64)))
def rtB (n : Int) : Bool := decide (1 ≤ n) && decide (n ≤ 99)
def n9 (n : Int) (a : ai) : Bool := decide (a.Bit < 0) || (decide (n ≤ a.Bit) || (!rtB a.aT || !rtB a.To))
def uj (a : ai) : Bool := decide (a.Kind < 1) || decide (3 < a.Kind)
def uk (a : ai) : Bool := !(decide (a.To = a.aT) == decide (a.Kind = 3))
def ltA (a b : ai) : Bool := decide (a.Bit < b.Bit)
def mA (a b : ai) : Bool := decide (a.aT = b.aT) && (decide (a.Kind = b.Kind) && decide (a.To = b.To))
def pz {α : Type} (q : α → α → Bool) : List α → List α → Bool
 | _, [] => false
 | p, x :: r => p.any (q x) || pz q (p ++ [x]) r
def iM (e : aB) : Int :=
 bif !nG e.Length || e.List.any (n9 e.Length) then 2 else bif e.List.any uj then 1 else bif e.List.any uk then 8 else bif gf ltA e.List then (bif pz mA [] e.List then 5 else 0) else 25
theorem aay {α β : Type} {B : Int → α → (Bool → Option β) → Bool → Option β} {K : Bool → Option β} (p : α → Bool) (hB : ∀ j x Z s, B j x Z s = Z (s && !p x)) (l : List α) (j : Nat) (s : Bool) : bn l j B K s = K (s && !l.any p) :=
 th (f := fun l s => K (s && !l.any p)) (fun s => by simp) (fun j x r s Z hZ => by
  rw [hB, hZ, List.any_cons]; cases s <;> cases p x <;> simp) l j s
theorem afi {α β : Type} {L : List α} (q : α → α → Bool) (a : Option β) {B : Int → α → (Unit → Option β) → Unit → Option β} {K : Unit → Option β}
  (hB : ∀ p x r Z, p ++ x :: r = L → B (p.length : Int) x Z () = bif p.any (q x) then a else Z ()) : bn L 0 B K () = bif pz q [] L then a else K () :=
 mU (L := L) (fun _ _ => True) (fun p l => bif pz q p l then a else K ()) (fun s _ => rfl) (fun p x r s Z h _ hZ => by
  rw [hB p x r Z h, hZ () trivial, pz]; cases p.any (q x) <;> rfl) L [] () rfl trivial
theorem k9 (e : aB) (hl : e.List.length ≤ 1000000) : eE e = some (iM e) := by
 unfold eE ja fq
 simp only [aL]
 refine (aay (n9 e.Length) (fun j x Z s => by
  unfold n9 rtB
  cases s
  ·rfl
  by_cases h1 : x.Bit < 0
  ·have : ¬ (0 ≤ x.Bit) := by omega
   simp [h1, this]
  have h1' : 0 ≤ x.Bit := by omega
  by_cases h2 : e.Length ≤ x.Bit
  ·have : ¬ (x.Bit < e.Length) := by omega
   simp [h1', h2, this]
  have h2' : x.Bit < e.Length := by omega
  simp only [h1', h2', decide_true, cond_true, h1, h2, decide_false, Bool.false_or, Bool.true_and]
  cases decide (1 ≤ x.aT) && decide (x.aT ≤ 99) <;> simp) _ _ _).trans ?_
 unfold iM nG
 have hgo : ∀ {b : Bool} {x y z : Option Int}, b = true → (bif b then x else y) = x := fun h => by subst h; rfl
 cases hb : (decide (e.Length = 8) || (decide (e.Length = 16) || (decide (e.Length = 32) || decide (e.Length = 64)))) && !e.List.any (n9 e.Length)
 ·have : (!(decide (e.Length = 8) || (decide (e.Length = 16) || (decide (e.Length = 32) || decide (e.Length = 64)))) || e.List.any (n9 e.Length)) = true := by
   revert hb; cases (decide (e.Length = 8) || (decide (e.Length = 16) || (decide (e.Length = 32) || decide (e.Length = 64)))) <;> cases e.List.any (n9 e.Length) <;> simp
  rw [this]; rfl
 ·have : (!(decide (e.Length = 8) || (decide (e.Length = 16) || (decide (e.Length = 32) || decide (e.Length = 64)))) || e.List.any (n9 e.Length)) = false := by
   revert hb; cases (decide (e.Length = 8) || (decide (e.Length = 16) || (decide (e.Length = 32) || decide (e.Length = 64)))) <;> cases e.List.any (n9 e.Length) <;> simp
  rw [this]
  simp only [Bool.not_true, cond_false]
  refine (dS uj (some 1) (by intros; rfl) _ _ _).trans ?_
  cases e.List.any uj
  ·simp only [cond_false]
   refine (dS uk (some 8) (by intros; rfl) _ _ _).trans ?_
   cases e.List.any uk
   ·simp only [cond_false]
    refine (lq ltA (some 25) (fun j x y r q s Z hL hj => by
     simp only [kg hL hj (by omega), aL, ltA]
     by_cases h : y.Bit < x.Bit
     ·have : ¬ x.Bit ≤ y.Bit := by omega
      simp [h, this]
     ·have : x.Bit ≤ y.Bit := by omega
      simp [h, this]) _).trans ?_
    cases gf ltA e.List
    ·rfl
    ·simp only [cond_true]
     refine (afi mA (some 5) (fun p x r Z h => by
      simp only [abb h, aL]
      exact dS (mA x) (some 5) (by intros; rfl) _ _ _)).trans ?_
     cases pz mA [] e.List <;> rfl
   ·rfl
  ·rfl
/-- a map from structs -/
theorem afj {κ α : Type} {q : κ → κ → Bool} (hq : ∀ a b, q a b = true ↔ a = b) (l : List (κ × α)) (n m : κ) (b : α) : gP q (ny q l n b) m = bif q m n then some b else gP q l m := by
 induction l with
 | nil => simp only [ny, gP, List.find?]; cases q m n <;> rfl
 | cons p r ih =>
  simp only [ny]
  cases h1 : q n p.1
  ·simp only [cond_false, gP, List.find?] at ih ⊢
   cases h2 : q m p.1
   ·simpa using ih
   ·have e := (hq _ _).1 h2
    have : q m n = false := by
     cases h3 : q m n
     ·rfl
     ·have := (hq _ _).1 h3; subst this; subst e; rw [(hq _ _).2 rfl] at h1; cases h1
    simp [this]
  ·have e := (hq _ _).1 h1
   simp only [cond_true, gP, List.find?] at ih ⊢
   subst e
   cases q m p.1 <;> simp
theorem afk (a b : aG) : bV a b = true ↔ a = b := by
 cases a; cases b; simp [bV]
def tgA (a : ai) : aG := aG.mk a.aT a.Kind a.To
theorem sE {a b : ai} : mA a b = true ↔ tgA a = tgA b := by simp [mA, tgA]
theorem mV (e : aB) (hl : e.List.length ≤ 1000000) : cZ e = some (iM e) := by
 unfold cZ fA dN
 simp only [aL]
 unfold iM
 show (bif !nG e.Length then _ else _) = _
 cases nG e.Length
 ·rfl
 simp only [Bool.not_true, cond_false, Bool.false_or]
 refine (dS (n9 e.Length) (some 2) (fun j x Z s => by
  unfold n9 rtB jn
  cases decide (x.Bit < 0)
  ·cases decide (e.Length ≤ x.Bit)
   ·cases decide (1 ≤ x.aT) && decide (x.aT ≤ 99) <;> rfl
   ·rfl
  ·rfl) _ _ _).trans ?_
 cases e.List.any (n9 e.Length)
 ·simp only [cond_false]
  refine (dS uj (some 1) (by intros; rfl) _ _ _).trans ?_
  cases e.List.any uj
  ·simp only [cond_false]
   refine (dS uk (some 8) (by intros; rfl) _ _ _).trans ?_
   cases e.List.any uk
   ·simp only [cond_false]
    refine (lq ltA (some 25) (fun j x y r q s Z hL hj => by
     simp only [kg hL hj (by omega), aL, ltA]
     by_cases h : y.Bit < x.Bit
     ·have : ¬ x.Bit ≤ y.Bit := by omega
      simp [h, this]
     ·have : x.Bit ≤ y.Bit := by omega
      simp [h, this]) _).trans ?_
    cases gf ltA e.List
    ·rfl
    ·simp only [cond_true, gV, aL]
     refine (mU (L := e.List) (fun p m => ∀ t, (gP bV m t).getD false = true ↔ ∃ a ∈ p, tgA a = t) (fun p l => bif pz mA p l then some 5 else some 0) (fun s _ => rfl) (fun p x r s Z h hi hZ => ?_) e.List [] [] rfl (fun t => by simp [gP])).trans ?_
     ·have hx := hi (tgA x)
      rw [pz]
      cases hc : (gP bV s (aG.mk x.aT x.Kind x.To)).getD false
      ·have hno : p.any (mA x) = false := by
        rw [any_false]
        intro a ha
        cases hs : mA x a
        ·rfl
        ·have h1 := hx.2 ⟨a, ha, (sE.1 hs).symm⟩
         exact absurd (hc.symm.trans h1) (by simp)
       rw [hno, cond_false, Bool.false_or]
       refine hZ _ fun t => ?_
       rw [afj afk]
       cases ht : bV t (aG.mk x.aT x.Kind x.To)
       ·rw [cond_false, hi t]
        constructor
        ·rintro ⟨a, ha, e⟩; exact ⟨a, by simp [ha], e⟩
        ·rintro ⟨a, ha, e⟩
         rcases List.mem_append.1 ha with ha | ha
         ·exact ⟨a, ha, e⟩
         ·simp at ha; subst ha; exact absurd (ht.symm.trans ((afk t (tgA a)).2 e.symm)) (by simp)
       ·have := (afk _ _).1 ht
        subst this
        simp only [cond_true, Option.getD_some, true_iff]
        exact ⟨x, by simp, rfl⟩
      ·obtain ⟨a, ha, e⟩ := hx.1 hc
       have : p.any (mA x) = true := List.any_eq_true.2 ⟨a, ha, sE.2 e.symm⟩
       rw [this]; rfl
     ·cases pz mA [] e.List <;> rfl
   ·rfl
  ·rfl
 ·rfl
/-! ## what it is to be valid -/
structure Ve (e : aB) : Prop where
 len : e.Length = 8 ∨ e.Length = 16 ∨ e.Length = 32 ∨ e.Length = 64
 rng : ∀ a ∈ e.List, 0 ≤ a.Bit ∧ a.Bit < e.Length ∧ (1 ≤ a.aT ∧ a.aT ≤ 99) ∧ 1 ≤ a.To ∧ a.To ≤ 99
 kind : ∀ a ∈ e.List, 1 ≤ a.Kind ∧ a.Kind ≤ 3
 conf : ∀ a ∈ e.List, a.To = a.aT ↔ a.Kind = 3
 asc : e.List.Pairwise fun a b => a.Bit < b.Bit
 dup : e.List.Pairwise fun a b => tgA a ≠ tgA b
theorem xz {α : Type} {q : α → α → Bool} : ∀ {l p : List α}, pz q p l = false ↔ (∀ a ∈ p, ∀ b ∈ l, q b a = false) ∧ l.Pairwise fun a b => q b a = false
 | [], p => by simp [pz]
 | x :: r, p => by
  rw [pz, Bool.or_eq_false_iff, xz, any_false, List.pairwise_cons]
  constructor
  ·rintro ⟨h1, h2, h3⟩
   refine ⟨fun a ha b hb => ?_, fun b hb => h2 x (by simp) b hb, h3⟩
   rcases List.mem_cons.1 hb with rfl | hb
   ·exact h1 a ha
   ·exact h2 a (by simp [ha]) b hb
  ·rintro ⟨h1, h2, h3⟩
   refine ⟨fun a ha => h1 a ha x (by simp), fun a ha b hb => ?_, h3⟩
   rcases List.mem_append.1 ha with ha | ha
   ·exact h1 a ha b (by simp [hb])
   ·simp at ha; subst ha; exact h2 b hb
theorem ada (a b c : ai) (h1 : ltA a b = true) (h2 : ltA b c = true) : ltA a c = true := by simp [ltA] at *; omega
theorem aaz {n : Int} {a : ai} : n9 n a = false ↔ 0 ≤ a.Bit ∧ a.Bit < n ∧ (1 ≤ a.aT ∧ a.aT ≤ 99) ∧ 1 ≤ a.To ∧ a.To ≤ 99 := by
 simp [n9, rtB]
theorem aaA {a : ai} : uj a = false ↔ 1 ≤ a.Kind ∧ a.Kind ≤ 3 := by simp [uj]
theorem aaB {a : ai} : uk a = false ↔ (a.To = a.aT ↔ a.Kind = 3) := by
 unfold uk
 by_cases h1 : a.To = a.aT <;> by_cases h2 : a.Kind = 3 <;> simp [h1, h2]
theorem jV {e : aB} : iM e = 0 ↔ Ve e := by
 unfold iM
 constructor
 ·intro h
  cases h1 : nG e.Length with
  | false => simp [h1] at h
  | true =>
  cases h2 : e.List.any (n9 e.Length) with
  | true => simp [h1, h2] at h
  | false =>
  cases h3 : e.List.any uj with
  | true => simp [h1, h2, h3] at h
  | false =>
  cases h4 : e.List.any uk with
  | true => simp [h1, h2, h3, h4] at h
  | false =>
  cases h5 : gf ltA e.List with
  | false => simp [h1, h2, h3, h4, h5] at h
  | true =>
  cases h6 : pz mA [] e.List with
  | true => simp [h1, h2, h3, h4, h5, h6] at h
  | false =>
  rw [any_false] at h2 h3 h4
  refine ⟨by simpa [nG] using h1, fun a ha => aaz.1 (h2 a ha), fun a ha => aaA.1 (h3 a ha), fun a ha => aaB.1 (h4 a ha), ?_, ?_⟩
  ·exact (mT ada h5).imp (fun h => by simpa [ltA] using h)
  ·exact (xz.1 h6).2.imp (fun {a b} h e => by rw [sE.2 e.symm] at h; cases h)
 ·intro h
  have h1 : nG e.Length = true := by simpa [nG] using h.len
  have h2 : e.List.any (n9 e.Length) = false := any_false.2 fun a ha => aaz.2 (h.rng a ha)
  have h3 : e.List.any uj = false := any_false.2 fun a ha => aaA.2 (h.kind a ha)
  have h4 : e.List.any uk = false := any_false.2 fun a ha => aaB.2 (h.conf a ha)
  have h5 : gf ltA e.List = true := jo (h.asc.imp fun h => by simpa [ltA] using h)
  have h6 : pz mA [] e.List = false := xz.2 ⟨by simp, h.dup.imp fun {a b} h => by
   cases hs : mA b a
   ·rfl
   ·exact absurd (sE.1 hs).symm h⟩
  simp [h1, h2, h3, h4, h5, h6]
/-! ## Own, Find, Fits, Same -/
def rW (r : Int) (a : Int) (x : ai) : Int := if x.aT = r then cg .or .u64 a (vz x.Bit.toNat) else a
def rX (e : aB) (r : Int) : Int := if iM e = 0 then e.List.foldl (rW r) 0 else 0
theorem zp {α σ β : Type} {L : List α} {B : Int → α → (σ → Option β) → σ → Option β} {K : σ → Option β} (g : σ → α → σ) (hB : ∀ j x, x ∈ L → ∀ Z s, B j x Z s = Z (g s x)) (s : σ) : bn L 0 B K s = K (L.foldl g s) := by
 have key : ∀ (l : List α) (j : Nat) (s : σ), (∀ x ∈ l, x ∈ L) → bn l j B K s = K (l.foldl g s) := by
  intro l
  induction l with
  | nil => intro j s _; rfl
  | cons x r ih =>
   intro j s h
   simp only [bn]
   rw [hB _ x (h x (by simp)), ih (j + 1) _ (fun y hy => h y (by simp [hy])), List.foldl_cons]
 exact key L 0 s (fun _ h => h)
theorem Ve.bit {e : aB} (h : Ve e) {a : ai} (ha : a ∈ e.List) : 0 ≤ a.Bit ∧ a.Bit < 64 := by
 have := h.rng a ha; have := h.len; omega
theorem wg (e : aB) (r : Int) (hl : e.List.length ≤ 1000000) : fJ e r = some (rX e r) := by
 unfold fJ rX
 simp only [mV e hl, aL, jn]
 by_cases h : iM e = 0
 ·have hv := jV.1 h
  simp only [h, decide_true, cond_true, if_true]
  refine zp (rW r) (fun j x hx Z s => ?_) 0
  obtain ⟨b1, b2⟩ := hv.bit hx
  unfold rW
  by_cases hr : x.aT = r
  ·simp only [hr, decide_true, cond_true, if_true, b1, chk, aax b1 b2]
  ·simp [hr]
 ·simp [h]
theorem zq (e : aB) (r : Int) (hl : e.List.length ≤ 1000000) : l6 e r = some (rX e r) := by
 unfold l6 rX
 simp only [k9 e hl, aL, jn]
 by_cases h : iM e = 0
 ·have hv := jV.1 h
  simp only [h, decide_true, cond_true, if_true]
  refine zp (rW r) (fun j x hx Z s => ?_) 0
  obtain ⟨b1, b2⟩ := hv.bit hx
  unfold rW
  by_cases hr : x.aT = r
  ·have e1 : IntKind.wrap .u64 x.Bit = x.Bit := wrap_u64 b1 (by omega)
   simp only [hr, decide_true, cond_true, if_true, e1, b1, chk, aax b1 b2]
  ·simp [hr]
 ·simp [h]
def p6 (e : aB) (r k t : Int) : Int × Bool := match e.List.find? (fun a => decide (a.aT = r) && (decide (a.Kind = k) && decide (a.To = t))) with | some a => (a.Bit, true) | none => (0, false)
def gY (e : aB) (r k t : Int) : Int × Bool := if iM e = 0 then p6 e r k t else (0, false)
theorem qL (e : aB) (r k t : Int) (hl : e.List.length ≤ 1000000) : iu e r k t = some (gY e r k t) := by
 unfold iu gY p6
 simp only [k9 e hl, aL, jn]
 by_cases h : iM e = 0
 ·simp only [h, decide_true, cond_true, if_true]
  refine (zl (fun a : ai => decide (a.aT = r) && (decide (a.Kind = k) && decide (a.To = t))) (fun a => some (a.Bit, true)) (by intros; rfl) _ _ _).trans ?_
  cases e.List.find? (fun a => decide (a.aT = r) && (decide (a.Kind = k) && decide (a.To = t))) <;> rfl
 ·simp [h]
theorem afl {α : Type} {β : Type} {B : Int → α → (Unit → Option Int) → Unit → Option Int} {K : Unit → Option Int} (p : α → Bool) (hB : ∀ j x Z s, B j x Z s = bif p x then some j else Z s) (hK : ∀ s, K s = some (-1)) {L : List α} (g : α → β) (z : β) :
  ∃ r, bn L 0 B K () = some r ∧ (bif decide (r < 0) then some z else bnd (elO L r) fun x => some (g x)) = some (match L.find? p with | some x => g x | none => z) := by
 have key : ∀ (l q : List α), q ++ l = L → ∃ r, bn l q.length B K () = some r ∧ (bif decide (r < 0) then some z else bnd (elO L r) fun x => some (g x)) = some (match l.find? p with | some x => g x | none => z) := by
  intro l
  induction l with
  | nil => intro q h; exact ⟨-1, hK (), rfl⟩
  | cons x r ih =>
   intro q h
   simp only [bn]
   rw [hB, List.find?]
   cases hp : p x
   ·obtain ⟨v, h1, h2⟩ := ih (q ++ [x]) (by simpa using h)
    simp only [List.length_append, List.length_singleton] at h1
    exact ⟨v, h1, h2⟩
   ·refine ⟨(q.length : Int), rfl, ?_⟩
    have : ¬ ((q.length : Int) < 0) := by omega
    rw [decide_eq_false this, cond_false, ← h, aas]; rfl
 exact key L [] rfl
theorem zu (e : aB) (t : aG) : gX e t = some (p6 e t.gQ t.lI t.to_) := by
 unfold gX cE p6
 simp only [jS, gV, aL]
 obtain ⟨v, h1, h2⟩ := afl (L := e.List) (B := fun (j1 : Int) (e1 : ai) (Z1 : Unit → Option Int) (sg : Unit) => bif bV { gQ := e1.aT, lI := e1.Kind, to_ := e1.To } t then some j1 else Z1 ()) (K := fun _ => some (-1)) (fun a : ai => decide (a.aT = t.gQ) && (decide (a.Kind = t.lI) && decide (a.To = t.to_))) (fun j x Z s => by
  unfold bV; simp) (fun s => rfl) (fun a : ai => (a.Bit, true)) ((0:Int), false)
 rw [show bn e.List 0 _ _ () = some v from h1, aL]
 refine Eq.trans h2 ?_
 cases List.find? (fun a : ai => decide (a.aT = t.gQ) && (decide (a.Kind = t.lI) && decide (a.To = t.to_))) e.List <;> rfl
theorem xA (e : aB) (r k t : Int) (hl : e.List.length ≤ 1000000) : fZ e r k t = some (gY e r k t) := by
 unfold fZ gY
 simp only [mV e hl, aL, zu]
 by_cases h : iM e = 0 <;> simp [h]
def wh (e : aB) (t : aj) : Int :=
 if iM e = 0 then if iL t = 0 then bif e.List.any (fun a => !hasB t a.aT || !hasB t a.To) then 4 else bif e.List.any (fun a => decide (a.Kind = 1) && !(jq t a.aT a.To).2) then 8 else 0 else 1 else iM e
theorem acj (e : aB) (t : aj) (hl : e.List.length ≤ 1000000) : mN e t = some (wh e t) := by
 unfold mN wh
 simp only [k9 e hl, aL, qg]
 by_cases h : iM e = 0
 ·by_cases hc : iL t = 0
  ·simp only [h, hc, decide_true, Bool.not_true, cond_false, if_true]
   refine (dS (fun a => !hasB t a.aT || !hasB t a.To) (some 4) (fun j x Z s => ?_) _ _ _).trans ?_
   ·simp only [aim, hc, decide_true, Bool.true_and, aL, jn]
    cases hasB t x.aT <;> rfl
   ·cases e.List.any (fun a => !hasB t a.aT || !hasB t a.To)
    ·refine (dS (fun a => decide (a.Kind = 1) && !(jq t a.aT a.To).2) (some 8) (fun j x Z s => ?_) _ _ _).trans ?_
     ·simp only [afc, hc, if_true, aL]
     ·simp only [cond_false]
      cases e.List.any (fun a => decide (a.Kind = 1) && !(jq t a.aT a.To).2) <;> rfl
    ·rfl
  ·simp [h, hc]
 ·simp [h]
theorem aaC (e : aB) (t : aj) (hl : e.List.length ≤ 1000000) (h1 : t.ay.length ≤ 1000000) (h2 : t.Links.length ≤ 1000000) : gW e t = some (wh e t) := by
 unfold gW wh
 simp only [mV e hl, aL, vp]
 by_cases h : iM e = 0
 ·by_cases hc : iL t = 0
  ·simp only [h, hc, decide_true, Bool.not_true, cond_false, if_true]
   refine (dS (fun a => !hasB t a.aT || !hasB t a.To) (some 4) (fun j x Z s => ?_) _ _ _).trans ?_
   ·simp only [aio _ _ h1, hc, decide_true, Bool.true_and, aL, jn]
    cases hasB t x.aT <;> rfl
   ·cases e.List.any (fun a => !hasB t a.aT || !hasB t a.To)
    ·refine (dS (fun a => decide (a.Kind = 1) && !(jq t a.aT a.To).2) (some 8) (fun j x Z s => ?_) _ _ _).trans ?_
     ·simp only [afe _ _ _ h2, hc, if_true, aL]
     ·simp only [cond_false]
      cases e.List.any (fun a => decide (a.Kind = 1) && !(jq t a.aT a.To).2) <;> rfl
    ·rfl
  ·simp [h, hc]
 ·simp [h]
theorem yh (a b : ai) : ee a b = true ↔ a = b := by cases a; cases b; simp [ee]
theorem rY {α β : Type} {a b : List α} {q : α → α → Bool} (hq : ∀ x y, q x y = true ↔ x = y) (y n : Option β) {B : Int → α → (Unit → Option β) → Unit → Option β} {K : Unit → Option β} (hK : K () = y)
  (hB : ∀ j x Z, B j x Z () = bnd (elO b j) fun e => bif !q x e then n else Z ()) (hl : a.length = b.length) : ∃ c : Bool, (c = true ↔ a = b) ∧ bn a 0 B K () = bif c then y else n := by
 have key : ∀ (l p : List α), p ++ l = a → ∃ c : Bool, (c = true ↔ l = b.drop p.length) ∧ bn l p.length B K () = bif c then y else n := by
  intro l
  induction l with
  | nil => intro p h; rw [List.append_nil] at h; subst h; exact ⟨true, by rw [List.drop_of_length_le (by omega)]; simp, hK⟩
  | cons x r ih =>
   intro p h
   have hlt : p.length < b.length := by rw [← hl, ← h]; simp
   simp only [bn]
   rw [hB, List.drop_eq_getElem_cons hlt]
   have e1 : elO b (p.length : Int) = some b[p.length] := by
    unfold elO; rw [if_pos (by omega)]; simp [hlt]
   rw [e1, aL]
   cases hx : q x b[p.length]
   ·refine ⟨false, ?_, rfl⟩
    simp only [Bool.false_eq_true, false_iff]
    intro hh
    rw [(hq _ _).2 (List.cons.inj hh).1] at hx; cases hx
   ·obtain ⟨c, h1, h2⟩ := ih (p ++ [x]) (by simpa using h)
    simp only [List.length_append, List.length_singleton] at h1 h2
    refine ⟨c, ?_, h2⟩
    rw [h1, (hq _ _).1 hx]
    exact ⟨fun hh => by rw [hh], fun hh => (List.cons.inj hh).2⟩
 obtain ⟨c, h1, h2⟩ := key a [] rfl
 exact ⟨c, by simpa using h1, h2⟩
open Classical in
noncomputable def sF (a b : aB) : Bool := decide (a = b)
theorem qM {a b : aB} : a = b ↔ a.Length = b.Length ∧ a.List = b.List := by cases a; cases b; simp
theorem yj (a b : aB) : kQ a b = some (sF a b) := by
 unfold kQ sF
 by_cases h1 : a.Length = b.Length
 ·by_cases h2 : a.List.length = b.List.length
  ·obtain ⟨c, hc, he⟩ := rY (a := a.List) (b := b.List) yh (some true) (some false) (K := fun (_ : Unit) => some true) (B := fun (j1 : Int) (e1 : ai) (Z1 : Unit → Option Bool) (_ : Unit) => bnd (elO b.List (j1 : Int)) fun (e_1 : ai) => bif !(ee e1 e_1) then some false else Z1 ()) rfl (fun _ _ _ => rfl) h2
   simp only [h1, h2, decide_true, Bool.not_true, Bool.or_false, cond_false]
   refine Eq.trans he ?_
   cases c
   ·have : ¬ a = b := fun hh => by have := hc.2 (qM.1 hh).2; cases this
    simp [this]
   ·have : a = b := qM.2 ⟨h1, hc.1 rfl⟩
    simp [this]
  ·have : ¬ a = b := fun hh => h2 (by rw [hh])
   have h2' : ¬ ((a.List.length : Int) = b.List.length) := by omega
   simp [h2', this]
 ·have : ¬ a = b := fun hh => h1 (by rw [hh])
  simp [h1, this]
theorem afm (a b : aB) : jm a b = some (sF a b) := by
 unfold jm cQ sF
 by_cases h1 : a.Length = b.Length
 ·by_cases h2 : a.List.length = b.List.length
  ·obtain ⟨c, hc, he⟩ := rY (a := a.List) (b := b.List) yh (some true) (some false) (K := fun (_ : Unit) => some true) (B := fun (j1 : Int) (e1 : ai) (Z1 : Unit → Option Bool) (_ : Unit) => bnd (elO b.List (j1 : Int)) fun (e_1 : ai) => bif !(ee e1 e_1) then some false else Z1 ()) rfl (fun _ _ _ => rfl) h2
   simp only [h1, h2, decide_true, Bool.not_true, cond_false, cond_true]
   rw [show bn a.List 0 _ _ () = _ from he]
   cases c
   ·have : ¬ a = b := fun hh => by have := hc.2 (qM.1 hh).2; cases this
    simp [this, aL]
   ·have : a = b := qM.2 ⟨h1, hc.1 rfl⟩
    simp [this, aL]
  ·have : ¬ a = b := fun hh => h2 (by rw [hh])
   have h2' : ¬ ((a.List.length : Int) = b.List.length) := by omega
   simp [h1, h2', this, aL]
 ·have : ¬ a = b := fun hh => h1 (by rw [hh])
  simp [h1, this]
end Go.Proofs.Ytmfehenfoepkfaa
