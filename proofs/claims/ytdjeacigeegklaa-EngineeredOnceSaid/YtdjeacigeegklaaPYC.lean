/- Plain: yO: the two texts of Validate, Fits, Own, Find, Same. No condition but bL aY stand in each. -/
import Derived.Test.YtdjeacigeegklaaPYA
import Derived.Test.YtdjeacigeegklaaPYB
import Derived.Test.YtdjeacigeegklaaPM
import Derived.Test.YtdjeacigeegklaaDA
namespace Go.Proofs.Ytdjeacigeegklaa
set_option linter.all false
open Go
/-- a loop along a list, with what is so of the state behind what was aom -/
theorem nF {α σ β : Type} {B : Int → α → (σ → Option β) → σ → Option β} {K : σ → Option β} {L : List α} (I : List α → σ → Prop) (f : List α → List α → Option β) (hn : ∀ s, I L s → K s = f L [])
  (hc : ∀ p x r s Z, p ++ x :: r = L → I p s → (∀ s', I (p ++ [x]) s' → Z s' = f (p ++ [x]) r) → B (p.length : Int) x Z s = f p (x :: r)) : ∀ (l p : List α) (s : σ), p ++ l = L → I p s → bY l p.length B K s = f p l
 | [], p, s, h, hi => by rw [List.append_nil] at h; subst h; exact hn s hi
 | x :: r, p, s, h, hi => hc p x r s _ h hi fun s' hs => by
   have := nF (B := B) (K := K) I f hn hc r (p ++ [x]) s' (by simpa using h) hs
   rw [List.length_append] at this
   exact this
theorem akO {α : Type} {L p r : List α} {x : α} (h : p ++ x :: r = L) : pT L 0 (p.length : Int) = some p := by
 unfold pT
 rw [if_pos ⟨by omega, by omega, by rw [← h]; simp; omega⟩, ← h]
 simp
def jD (n : Int) : Bool := decide (n = 8) || (decide (n = 16) || (decide (n = 32) || decide (n = 64)))
def rtB (n : Int) : Bool := decide (1 ≤ n) && decide (n ≤ 99)
def nG (n : Int) (a : ah) : Bool := decide (a.Bit < 0) || (decide (n ≤ a.Bit) || (!rtB a.aR || !rtB a.To))
def tT (a : ah) : Bool := decide (a.Kind < 1) || decide (3 < a.Kind)
def tU (a : ah) : Bool := !(decide (a.To = a.aR) == decide (a.Kind = 3))
def ltA (a b : ah) : Bool := decide (a.Bit < b.Bit)
def l6 (a b : ah) : Bool := decide (a.aR = b.aR) && (decide (a.Kind = b.Kind) && decide (a.To = b.To))
def oG {α : Type} (q : α → α → Bool) : List α → List α → Bool
 | _, [] => false
 | p, x :: r => p.any (q x) || oG q (p ++ [x]) r
def rC (e : aM) : Int :=
 bif !jD e.Length || e.List.any (nG e.Length) then 2 else bif e.List.any tT then 1 else bif e.List.any tU then 8 else bif lH ltA e.List then (bif oG l6 [] e.List then 5 else 0) else 25
theorem afN {α β : Type} {B : Int → α → (Bool → Option β) → Bool → Option β} {K : Bool → Option β} (p : α → Bool) (hB : ∀ j x Z s, B j x Z s = Z (s && !p x)) (l : List α) (j : Nat) (s : Bool) : bY l j B K s = K (s && !l.any p) :=
 sX (f := fun l s => K (s && !l.any p)) (fun s => by simp) (fun j x r s Z hZ => by
  rw [hB, hZ, List.any_cons]; cases s <;> cases p x <;> simp) l j s
theorem afO {α β : Type} {L : List α} (q : α → α → Bool) (a : Option β) {B : Int → α → (Unit → Option β) → Unit → Option β} {K : Unit → Option β}
  (hB : ∀ p x r Z, p ++ x :: r = L → B (p.length : Int) x Z () = bif p.any (q x) then a else Z ()) : bY L 0 B K () = bif oG q [] L then a else K () :=
 nF (L := L) (fun _ _ => True) (fun p l => bif oG q p l then a else K ()) (fun s _ => rfl) (fun p x r s Z h _ hZ => by
  rw [hB p x r Z h, hZ () trivial, oG]; cases p.any (q x) <;> rfl) L [] () rfl trivial
theorem s7 (e : aM) (hl : e.List.length ≤ 1000000) : hU e = some (rC e) := by
 unfold hU jf kL
 simp only [bK]
 refine (afN (nG e.Length) (fun j x Z s => by
  unfold nG rtB
  cases s
  ·rfl
  by_cases h1 : x.Bit < 0
  ·have : ¬ (0 ≤ x.Bit) := by omega
   simp [h1, this]
  have h1' : 0 ≤ x.Bit := by omega
  by_cases h2 : e.Length ≤ x.Bit
  ·have : ¬ (x.Bit < e.Length) := by omega
   simp [h1', h2, this]
  have h2' : x.Bit < e.Length := by omega
  simp only [h1', h2', decide_true, cond_true, h1, h2, decide_false, Bool.false_or, Bool.true_and]
  cases decide (1 ≤ x.aR) && decide (x.aR ≤ 99) <;> simp) _ _ _).trans ?_
 unfold rC jD
 have hgo : ∀ {b : Bool} {x y z : Option Int}, b = true → (bif b then x else y) = x := fun h => by subst h; rfl
 cases hb : (decide (e.Length = 8) || (decide (e.Length = 16) || (decide (e.Length = 32) || decide (e.Length = 64)))) && !e.List.any (nG e.Length)
 ·have : (!(decide (e.Length = 8) || (decide (e.Length = 16) || (decide (e.Length = 32) || decide (e.Length = 64)))) || e.List.any (nG e.Length)) = true := by
   revert hb; cases (decide (e.Length = 8) || (decide (e.Length = 16) || (decide (e.Length = 32) || decide (e.Length = 64)))) <;> cases e.List.any (nG e.Length) <;> simp
  rw [this]; rfl
 ·have : (!(decide (e.Length = 8) || (decide (e.Length = 16) || (decide (e.Length = 32) || decide (e.Length = 64)))) || e.List.any (nG e.Length)) = false := by
   revert hb; cases (decide (e.Length = 8) || (decide (e.Length = 16) || (decide (e.Length = 32) || decide (e.Length = 64)))) <;> cases e.List.any (nG e.Length) <;> simp
  rw [this]
  simp only [Bool.not_true, cond_false]
  refine (iQ tT (some 1) (by intros; rfl) _ _ _).trans ?_
  cases e.List.any tT
  ·simp only [cond_false]
   refine (iQ tU (some 8) (by intros; rfl) _ _ _).trans ?_
   cases e.List.any tU
   ·simp only [cond_false]
    refine (rY ltA (some 25) (fun j x y r q s Z hL hj => by
     simp only [o9 hL hj (by omega), bK, ltA]
     by_cases h : y.Bit < x.Bit
     ·have : ¬ x.Bit ≤ y.Bit := by omega
      simp [h, this]
     ·have : x.Bit ≤ y.Bit := by omega
      simp [h, this]) _).trans ?_
    cases lH ltA e.List
    ·rfl
    ·simp only [cond_true]
     refine (afO l6 (some 5) (fun p x r Z h => by
      simp only [akO h, bK]
      exact iQ (l6 x) (some 5) (by intros; rfl) _ _ _)).trans ?_
     cases oG l6 [] e.List <;> rfl
   ·rfl
  ·rfl
/-- a map from structs -/
theorem afP {κ α : Type} {q : κ → κ → Bool} (hq : ∀ a b, q a b = true ↔ a = b) (l : List (κ × α)) (n m : κ) (b : α) : gX q (mO q l n b) m = bif q m n then some b else gX q l m := by
 induction l with
 | nil => simp only [mO, gX, List.find?]; cases q m n <;> rfl
 | cons p r ih =>
  simp only [mO]
  cases h1 : q n p.1
  ·simp only [cond_false, gX, List.find?] at ih ⊢
   cases h2 : q m p.1
   ·simpa using ih
   ·have e := (hq _ _).1 h2
    have : q m n = false := by
     cases h3 : q m n
     ·rfl
     ·have := (hq _ _).1 h3; subst this; subst e; rw [(hq _ _).2 rfl] at h1; cases h1
    simp [this]
  ·have e := (hq _ _).1 h1
   simp only [cond_true, gX, List.find?] at ih ⊢
   subst e
   cases q m p.1 <;> simp
theorem afQ (a b : bZ) : cZ a b = true ↔ a = b := by
 cases a; cases b; simp [cZ]
def tgA (a : ah) : bZ := bZ.mk a.aR a.Kind a.To
theorem sj {a b : ah} : l6 a b = true ↔ tgA a = tgA b := by simp [l6, tgA]
theorem rD (e : aM) (hl : e.List.length ≤ 1000000) : fE e = some (rC e) := by
 unfold fE fR iH
 simp only [bK]
 unfold rC
 show (bif !jD e.Length then _ else _) = _
 cases jD e.Length
 ·rfl
 simp only [Bool.not_true, cond_false, Bool.false_or]
 refine (iQ (nG e.Length) (some 2) (fun j x Z s => by
  unfold nG rtB jn
  cases decide (x.Bit < 0)
  ·cases decide (e.Length ≤ x.Bit)
   ·cases decide (1 ≤ x.aR) && decide (x.aR ≤ 99) <;> rfl
   ·rfl
  ·rfl) _ _ _).trans ?_
 cases e.List.any (nG e.Length)
 ·simp only [cond_false]
  refine (iQ tT (some 1) (by intros; rfl) _ _ _).trans ?_
  cases e.List.any tT
  ·simp only [cond_false]
   refine (iQ tU (some 8) (by intros; rfl) _ _ _).trans ?_
   cases e.List.any tU
   ·simp only [cond_false]
    refine (rY ltA (some 25) (fun j x y r q s Z hL hj => by
     simp only [o9 hL hj (by omega), bK, ltA]
     by_cases h : y.Bit < x.Bit
     ·have : ¬ x.Bit ≤ y.Bit := by omega
      simp [h, this]
     ·have : x.Bit ≤ y.Bit := by omega
      simp [h, this]) _).trans ?_
    cases lH ltA e.List
    ·rfl
    ·simp only [cond_true, kU, bK]
     refine (nF (L := e.List) (fun p m => ∀ t, (gX cZ m t).getD false = true ↔ ∃ a ∈ p, tgA a = t) (fun p l => bif oG l6 p l then some 5 else some 0) (fun s _ => rfl) (fun p x r s Z h hi hZ => ?_) e.List [] [] rfl (fun t => by simp [gX])).trans ?_
     ·have hx := hi (tgA x)
      rw [oG]
      cases hc : (gX cZ s (bZ.mk x.aR x.Kind x.To)).getD false
      ·have hno : p.any (l6 x) = false := by
        rw [any_false]
        intro a ha
        cases hs : l6 x a
        ·rfl
        ·have h1 := hx.2 ⟨a, ha, (sj.1 hs).symm⟩
         exact absurd (hc.symm.trans h1) (by simp)
       rw [hno, cond_false, Bool.false_or]
       refine hZ _ fun t => ?_
       rw [afP afQ]
       cases ht : cZ t (bZ.mk x.aR x.Kind x.To)
       ·rw [cond_false, hi t]
        constructor
        ·rintro ⟨a, ha, e⟩; exact ⟨a, by simp [ha], e⟩
        ·rintro ⟨a, ha, e⟩
         rcases List.mem_append.1 ha with ha | ha
         ·exact ⟨a, ha, e⟩
         ·simp at ha; subst ha; exact absurd (ht.symm.trans ((afQ t (tgA a)).2 e.symm)) (by simp)
       ·have := (afQ _ _).1 ht
        subst this
        simp only [cond_true, Option.getD_some, true_iff]
        exact ⟨x, by simp, rfl⟩
      ·obtain ⟨a, ha, e⟩ := hx.1 hc
       have : p.any (l6 x) = true := List.any_eq_true.2 ⟨a, ha, sj.2 e.symm⟩
       rw [this]; rfl
     ·cases oG l6 [] e.List <;> rfl
   ·rfl
  ·rfl
 ·rfl
/-! ## what it is to be valid -/
structure Ve (e : aM) : Prop where
 len : e.Length = 8 ∨ e.Length = 16 ∨ e.Length = 32 ∨ e.Length = 64
 rng : ∀ a ∈ e.List, 0 ≤ a.Bit ∧ a.Bit < e.Length ∧ (1 ≤ a.aR ∧ a.aR ≤ 99) ∧ 1 ≤ a.To ∧ a.To ≤ 99
 kind : ∀ a ∈ e.List, 1 ≤ a.Kind ∧ a.Kind ≤ 3
 aoq : ∀ a ∈ e.List, a.To = a.aR ↔ a.Kind = 3
 asc : e.List.Pairwise fun a b => a.Bit < b.Bit
 dup : e.List.Pairwise fun a b => tgA a ≠ tgA b
theorem xx {α : Type} {q : α → α → Bool} : ∀ {l p : List α}, oG q p l = false ↔ (∀ a ∈ p, ∀ b ∈ l, q b a = false) ∧ l.Pairwise fun a b => q b a = false
 | [], p => by simp [oG]
 | x :: r, p => by
  rw [oG, Bool.or_eq_false_iff, xx, any_false, List.pairwise_cons]
  constructor
  ·rintro ⟨h1, h2, h3⟩
   refine ⟨fun a ha b hb => ?_, fun b hb => h2 x (by simp) b hb, h3⟩
   rcases List.mem_cons.1 hb with rfl | hb
   ·exact h1 a ha
   ·exact h2 a (by simp [ha]) b hb
  ·rintro ⟨h1, h2, h3⟩
   refine ⟨fun a ha => h1 a ha x (by simp), fun a ha b hb => ?_, h3⟩
   rcases List.mem_append.1 ha with ha | ha
   ·exact h1 a ha b (by simp [hb])
   ·simp at ha; subst ha; exact h2 b hb
theorem adr (a b c : ah) (h1 : ltA a b = true) (h2 : ltA b c = true) : ltA a c = true := by simp [ltA] at *; omega
theorem aaC {n : Int} {a : ah} : nG n a = false ↔ 0 ≤ a.Bit ∧ a.Bit < n ∧ (1 ≤ a.aR ∧ a.aR ≤ 99) ∧ 1 ≤ a.To ∧ a.To ≤ 99 := by
 simp [nG, rtB]
theorem aaD {a : ah} : tT a = false ↔ 1 ≤ a.Kind ∧ a.Kind ≤ 3 := by simp [tT]
theorem aaE {a : ah} : tU a = false ↔ (a.To = a.aR ↔ a.Kind = 3) := by
 unfold tU
 by_cases h1 : a.To = a.aR <;> by_cases h2 : a.Kind = 3 <;> simp [h1, h2]
theorem rE {e : aM} : rC e = 0 ↔ Ve e := by
 unfold rC
 constructor
 ·intro h
  cases h1 : jD e.Length with
  | false => simp [h1] at h
  | true =>
  cases h2 : e.List.any (nG e.Length) with
  | true => simp [h1, h2] at h
  | false =>
  cases h3 : e.List.any tT with
  | true => simp [h1, h2, h3] at h
  | false =>
  cases h4 : e.List.any tU with
  | true => simp [h1, h2, h3, h4] at h
  | false =>
  cases h5 : lH ltA e.List with
  | false => simp [h1, h2, h3, h4, h5] at h
  | true =>
  cases h6 : oG l6 [] e.List with
  | true => simp [h1, h2, h3, h4, h5, h6] at h
  | false =>
  rw [any_false] at h2 h3 h4
  refine ⟨by simpa [jD] using h1, fun a ha => aaC.1 (h2 a ha), fun a ha => aaD.1 (h3 a ha), fun a ha => aaE.1 (h4 a ha), ?_, ?_⟩
  ·exact (oF adr h5).imp (fun h => by simpa [ltA] using h)
  ·exact (xx.1 h6).2.imp (fun {a b} h e => by rw [sj.2 e.symm] at h; cases h)
 ·intro h
  have h1 : jD e.Length = true := by simpa [jD] using h.len
  have h2 : e.List.any (nG e.Length) = false := any_false.2 fun a ha => aaC.2 (h.rng a ha)
  have h3 : e.List.any tT = false := any_false.2 fun a ha => aaD.2 (h.kind a ha)
  have h4 : e.List.any tU = false := any_false.2 fun a ha => aaE.2 (h.aoq a ha)
  have h5 : lH ltA e.List = true := mw (h.asc.imp fun h => by simpa [ltA] using h)
  have h6 : oG l6 [] e.List = false := xx.2 ⟨by simp, h.dup.imp fun {a b} h => by
   cases hs : l6 b a
   ·rfl
   ·exact absurd (sj.1 hs).symm h⟩
  simp [h1, h2, h3, h4, h5, h6]
/-! ## Own, Find, Fits, Same -/
def oH (r : Int) (a : Int) (x : ah) : Int := if x.aR = r then bH .or .u64 a (p9 x.Bit.toNat) else a
def nH (e : aM) (r : Int) : Int := if rC e = 0 then e.List.foldl (oH r) 0 else 0
theorem zz {α σ β : Type} {L : List α} {B : Int → α → (σ → Option β) → σ → Option β} {K : σ → Option β} (g : σ → α → σ) (hB : ∀ j x, x ∈ L → ∀ Z s, B j x Z s = Z (g s x)) (s : σ) : bY L 0 B K s = K (L.foldl g s) := by
 have key : ∀ (l : List α) (j : Nat) (s : σ), (∀ x ∈ l, x ∈ L) → bY l j B K s = K (l.foldl g s) := by
  intro l
  induction l with
  | nil => intro j s _; rfl
  | cons x r ih =>
   intro j s h
   simp only [bY]
   rw [hB _ x (h x (by simp)), ih (j + 1) _ (fun y hy => h y (by simp [hy])), List.foldl_cons]
 exact key L 0 s (fun _ h => h)
theorem Ve.bit {e : aM} (h : Ve e) {a : ah} (ha : a ∈ e.List) : 0 ≤ a.Bit ∧ a.Bit < 64 := by
 have := h.rng a ha; have := h.len; omega
theorem akP (e : aM) (r : Int) (hl : e.List.length ≤ 1000000) : jS e r = some (nH e r) := by
 unfold jS nH
 simp only [rD e hl, bK, jn]
 by_cases h : rC e = 0
 ·have hv := rE.1 h
  simp only [h, decide_true, cond_true, if_true]
  refine zz (oH r) (fun j x hx Z s => ?_) 0
  obtain ⟨b1, b2⟩ := hv.bit hx
  unfold oH
  by_cases hr : x.aR = r
  ·simp only [hr, decide_true, cond_true, if_true, b1, chk, vh b1 b2]
  ·simp [hr]
 ·simp [h]
theorem ads (e : aM) (r : Int) (hl : e.List.length ≤ 1000000) : nh e r = some (nH e r) := by
 unfold nh nH
 simp only [s7 e hl, bK, jn]
 by_cases h : rC e = 0
 ·have hv := rE.1 h
  simp only [h, decide_true, cond_true, if_true]
  refine zz (oH r) (fun j x hx Z s => ?_) 0
  obtain ⟨b1, b2⟩ := hv.bit hx
  unfold oH
  by_cases hr : x.aR = r
  ·have e1 : IntKind.wrap .u64 x.Bit = x.Bit := wrap_u64 b1 (by omega)
   simp only [hr, decide_true, cond_true, if_true, e1, b1, chk, vh b1 b2]
  ·simp [hr]
 ·simp [h]
def acq (e : aM) (r k t : Int) : Int × Bool := match e.List.find? (fun a => decide (a.aR = r) && (decide (a.Kind = k) && decide (a.To = t))) with | some a => (a.Bit, true) | none => (0, false)
def qw (e : aM) (r k t : Int) : Int × Bool := if rC e = 0 then acq e r k t else (0, false)
theorem x9 (e : aM) (r k t : Int) (hl : e.List.length ≤ 1000000) : kM e r k t = some (qw e r k t) := by
 unfold kM qw acq
 simp only [s7 e hl, bK, jn]
 by_cases h : rC e = 0
 ·simp only [h, decide_true, cond_true, if_true]
  refine (zp (fun a : ah => decide (a.aR = r) && (decide (a.Kind = k) && decide (a.To = t))) (fun a => some (a.Bit, true)) (by intros; rfl) _ _ _).trans ?_
  cases e.List.find? (fun a => decide (a.aR = r) && (decide (a.Kind = k) && decide (a.To = t))) <;> rfl
 ·simp [h]
end Go.Proofs.Ytdjeacigeegklaa
