/- Plain: trees: the two texts of CheckTree, ay, Bits. No condition but bR bw stand in each. -/
import Derived.Test.YtmfehenfoepkfaaPYC
namespace Go.Proofs.Ytmfehenfoepkfaa
set_option linter.all false
open Go
def pX (h : bq) : Bool := !rtB h.bJ || !rtB h.To
def ltH (a b : bq) : Bool := decide (a.bJ < b.bJ) || (decide (a.bJ = b.bJ) && decide (a.To < b.To))
def qj (a b : bq) : Bool := decide (b.To = a.To)
def oe (root : Int) : List bq → List bq → Bool
 | _, [] => false
 | p, x :: r => (p.any (qj x) || decide (x.To = root)) || oe root (p ++ [x]) r
/-- what the sM reach from a root -/
inductive Rch (root : Int) (L : List bq) : Int → Prop
 | root : Rch root L root
 | step (h : bq) : h ∈ L → Rch root L h.bJ → Rch root L h.To
noncomputable def ckT (t : bB) : Int :=
 bif !rtB t.bL || t.Links.any pX then 2 else bif gf ltH t.Links then (bif oe t.bL [] t.Links then 8 else @ite Int (∀ h ∈ t.Links, Rch t.bL t.Links h.bJ) (Classical.propDecidable _) 0 10) else 25
def mj (f : Int → Bool) (L : List bq) : Nat := (L.filter fun h => !f h.To).length
theorem abc {f g : Int → Bool} (h : ∀ x, f x = true → g x = true) (L : List bq) : mj g L ≤ mj f L := by
 unfold mj
 induction L with
 | nil => simp
 | cons a r ih =>
  simp only [List.filter_cons]
  cases hf : f a.To
  ·cases hg : g a.To <;> simp <;> omega
  ·rw [h _ hf]; simpa using ih
theorem yV {f g : Int → Bool} (h : ∀ x, f x = true → g x = true) {a : bq} : ∀ {L : List bq}, a ∈ L → f a.To = false → g a.To = true → mj g L < mj f L
 | [], ha, _, _ => by cases ha
 | b :: r, ha, h1, h2 => by
  have hle := abc h r
  unfold mj at *
  simp only [List.filter_cons]
  rcases List.mem_cons.1 ha with rfl | ha
  ·rw [h1, h2]; simp; omega
  ·have ih := yV h ha h1 h2
   unfold mj at ih
   cases hf : f b.To
   ·cases hg : g b.To <;> simp <;> omega
   ·rw [h _ hf]; simpa using ih
structure RI (root : Int) (L : List bq) (f : Int → Bool) : Prop where
 rt : f root = true
 sub : ∀ x, f x = true → Rch root L x
structure RJ (root : Int) (L : List bq) (f0 : Int → Bool) (p : List bq) (g : Bool) (f : Int → Bool) : Prop where
 ri : RI root L f
 up : ∀ x, f0 x = true → f x = true
 no : g = false → (∀ x, f x = f0 x) ∧ ∀ h ∈ p, f h.bJ = true → f h.To = true
 yes : g = true → mj f L < mj f0 L
theorem RJ.start {root : Int} {L : List bq} {f : Int → Bool} (h : RI root L f) : RJ root L f [] false f := ⟨h, fun _ => id, fun _ => ⟨fun _ => rfl, by simp⟩, fun h => by cases h⟩
theorem RJ.add {root : Int} {L : List bq} {f0 f f' : Int → Bool} {p : List bq} {g : Bool} {h : bq} (j : RJ root L f0 p g f) (hm : h ∈ L) (h1 : f h.bJ = true) (h2 : f h.To = false) (hf : ∀ y, f' y = (decide (y = h.To) || f y)) : RJ root L f0 (p ++ [h]) true f' := by
 have up : ∀ x, f x = true → f' x = true := fun x hx => by rw [hf, hx]; simp
 have hl : mj f' L < mj f L := yV up hm h2 (by rw [hf]; simp)
 refine ⟨⟨up _ j.ri.rt, fun x hx => ?_⟩, fun x hx => up x (j.up x hx), fun h => (by cases h), fun _ => ?_⟩
 ·rw [hf, Bool.or_eq_true, decide_eq_true_eq] at hx
  rcases hx with rfl | hx
  ·exact .step h hm (j.ri.sub _ h1)
  ·exact j.ri.sub x hx
 ·have := abc j.up L; omega
theorem RJ.pass {root : Int} {L : List bq} {f0 f : Int → Bool} {p : List bq} {g : Bool} {h : bq} (j : RJ root L f0 p g f) (hn : f h.bJ = false ∨ f h.To = true) : RJ root L f0 (p ++ [h]) g f := by
 refine ⟨j.ri, j.up, fun hg => ⟨(j.no hg).1, fun x hx hf => ?_⟩, j.yes⟩
 rcases List.mem_append.1 hx with hx | hx
 ·exact (j.no hg).2 x hx hf
 ·simp at hx; subst hx
  rcases hn with hn | hn
  ·rw [hn] at hf; cases hf
  ·exact hn
theorem RI.done {root : Int} {L : List bq} {f : Int → Bool} (h : RI root L f) (hc : ∀ x ∈ L, f x.bJ = true → f x.To = true) (x : Int) : f x = true ↔ Rch root L x := by
 refine ⟨h.sub x, fun hr => ?_⟩
 induction hr with
 | root => exact h.rt
 | step y hy _ ih => exact hc y hy ih
theorem xB (f : Int → Bool) (L : List bq) : mj f L ≤ L.length := List.length_filter_le _ _
def gL (m : List (Int × Bool)) (x : Int) : Bool := (cB m x).getD false
theorem rZ (m : List (Int × Bool)) (n x : Int) : gL (gz m n true) x = (decide (x = n) || gL m x) := by
 unfold gL; rw [afh]; by_cases h : x = n <;> simp [h]
theorem aaT (t : bB) (hl : t.Links.length ≤ 1000000) : Ok (gN t) (fun m => ∀ x, gL m x = true ↔ Rch t.bL t.Links x) := by
 unfold gN
 refine Ok.whl (fun sg : Bool × List (Int × Bool) => RI t.bL t.Links (gL sg.2) ∧ (sg.1 = false → ∀ x ∈ t.Links, gL sg.2 x.bJ = true → gL sg.2 x.To = true)) (fun sg => 2 * mj (gL sg.2) t.Links + if sg.1 then 1 else 0) ?_ ?_ ?_
 ·refine ⟨⟨?_, fun x hx => ?_⟩, fun h => by cases h⟩
  ·show gL (gz [] t.bL true) t.bL = true
   rw [rZ]; simp
  ·have hx : gL (gz [] t.bL true) x = true := hx
   rw [rZ] at hx
   simp [gL, cB] at hx
   subst hx; exact .root
 ·have := xB (gL (gz [] t.bL true)) t.Links
  show 2 * mj (gL (gz [] t.bL true)) t.Links + 1 < _
  omega
 ·rintro ⟨g, m⟩ Z ⟨h1, h2⟩ hZ
  refine Ok.cs (fun hg => ?_) (fun hg => Ok.s (h1.done (h2 hg)))
  refine Ok.xy (L := t.Links) (fun p (sg : Bool × List (Int × Bool)) => RJ t.bL t.Links (gL m) p sg.1 (gL sg.2)) (fun p x r s Z2 hL hI hZ2 => ?_) (false, m) (RJ.start h1) (fun s hs => ?_)
  ·obtain ⟨g2, m2⟩ := s
   unfold jn
   have hm : x ∈ t.Links := by rw [hL]; simp
   refine Ok.cs (fun hc => hZ2 _ ?_) (fun hc => hZ2 _ ?_)
   ·simp only [Bool.and_eq_true, Bool.not_eq_true'] at hc
    exact hI.add hm hc.1 hc.2 (fun y => rZ m2 x.To y)
   ·refine hI.pass ?_
    change (gL m2 x.bJ && !gL m2 x.To) = false at hc
    revert hc; cases gL m2 x.bJ <;> cases gL m2 x.To <;> simp
  ·obtain ⟨g2, m2⟩ := s
   refine hZ (g2, m2) ⟨hs.ri, fun hg2 => (hs.no hg2).2⟩ ?_
   cases g2
   ·have e : gL m2 = gL m := funext (hs.no rfl).1
    have hg : g = true := hg
    subst hg
    simp [e]
   ·have := hs.yes rfl
    have hg : g = true := hg
    subst hg
    simp; omega
theorem ait (l : List Int) (a x : Int) : decide (x ∈ l ++ [a]) = (decide (x = a) || decide (x ∈ l)) := by
 by_cases h1 : x = a <;> by_cases h2 : x ∈ l <;> simp [h1, h2]
theorem alA {a b : bq} : (decide (b.bJ < a.bJ) || (decide (a.bJ = b.bJ) && decide (b.To ≤ a.To))) = !ltH a b := by
 unfold ltH
 by_cases h1 : b.bJ < a.bJ
 ·have h2 : ¬ a.bJ < b.bJ := by omega
  have h3 : ¬ a.bJ = b.bJ := by omega
  simp [h1, h2, h3]
 ·by_cases h2 : a.bJ = b.bJ
  ·by_cases h3 : a.To < b.To
   ·have h4 : ¬ b.To ≤ a.To := by omega
    simp [h1, h2, h3, h4]
   ·have h4 : b.To ≤ a.To := by omega
    simp [h1, h2, h3, h4]
  ·have h3 : a.bJ < b.bJ := by omega
   simp [h1, h2, h3]
theorem pE (t : bB) (hl : t.Links.length ≤ 1000000) : fE t = some (ckT t) := by
 unfold fE fq
 simp only [aL]
 refine (aay pX (fun j x Z s => by
  unfold pX rtB
  cases s
  ·rfl
  cases decide (1 ≤ x.bJ) && decide (x.bJ ≤ 99) <;> simp) _ _ _).trans ?_
 unfold ckT
 have e0 : ((decide (1 ≤ t.bL) && decide (t.bL ≤ 99)) && !t.Links.any pX) = !(!rtB t.bL || t.Links.any pX) := by
  unfold rtB; cases (decide (1 ≤ t.bL) && decide (t.bL ≤ 99)) <;> simp
 rw [e0, Bool.not_not]
 cases (!rtB t.bL || t.Links.any pX)
 ·simp only [cond_false]
  refine (lq ltH (some 25) (fun j x y r q s Z hL hj => by
   simp only [kg hL hj (by omega), aL, alA]
   cases ltH y x <;> rfl) _).trans ?_
  cases gf ltH t.Links
  ·rfl
  ·simp only [cond_true]
   refine (mU (L := t.Links) (fun _ _ => True) (fun p l => bif oe t.bL p l then some 8 else some (@ite Int (∀ h ∈ t.Links, Rch t.bL t.Links h.bJ) (Classical.propDecidable _) 0 10)) (fun s _ => ?_) (fun p x r s Z h _ hZ => ?_) t.Links [] () rfl trivial).trans ?_
   ·simp only [oe, cond_false]
    refine Ok.eq (Ok.whl (fun sg : List Int × Bool => (RI t.bL t.Links (fun x => decide (x ∈ sg.1)) ∧ (sg.2 = false → ∀ x ∈ t.Links, x.bJ ∈ sg.1 → x.To ∈ sg.1)) ∧ sg.1.length + mj (fun x => decide (x ∈ sg.1)) t.Links ≤ 1 + t.Links.length) (fun sg => 2 * mj (fun x => decide (x ∈ sg.1)) t.Links + if sg.2 then 1 else 0) ?_ ?_ ?_)
    ·refine ⟨⟨⟨by simp, fun x hx => ?_⟩, fun h => by cases h⟩, ?_⟩
     ·simp at hx; subst hx; exact .root
     ·have := xB (fun x => decide (x ∈ [t.bL])) t.Links
      simp only [List.length_singleton]; omega
    ·have := xB (fun x => decide (x ∈ [t.bL])) t.Links
     show 2 * mj (fun x => decide (x ∈ [t.bL])) t.Links + 1 < _
     omega
    ·rintro ⟨m, g⟩ Z ⟨⟨h1, h2⟩, h3⟩ hZ
     refine Ok.cs (fun hg => ?_) (fun hg => ?_)
     ·refine Ok.xy (L := t.Links) (fun p (sg : List Int × Bool) => RJ t.bL t.Links (fun x => decide (x ∈ m)) p sg.2 (fun x => decide (x ∈ sg.1)) ∧ sg.1.length + mj (fun x => decide (x ∈ sg.1)) t.Links ≤ 1 + t.Links.length) (fun p x r s Z2 hL hI hZ2 => ?_) (m, false) ⟨RJ.start h1, h3⟩ (fun s hs => ?_)
      ·obtain ⟨m2, g2⟩ := s
       obtain ⟨hI, hI2⟩ := hI
       simp only at hI2
       have hm : x ∈ t.Links := by rw [hL]; simp
       simp only [jn, aaw, aL]
       by_cases c1 : x.bJ ∈ m2
       ·by_cases c2 : x.To ∈ m2
        ·simp only [c1, c2, decide_true, cond_true, Bool.not_true, cond_false]
         exact hZ2 _ ⟨hI.pass (.inr (by simpa using c2)), hI2⟩
        ·simp only [c1, c2, decide_true, cond_true, decide_false, Bool.not_false]
         refine Ok.bnd (iR (by simp only [List.length_singleton]; omega)) fun m3 q3 => ?_
         rw [q3.1]
         have hlt := yV (f := fun y => decide (y ∈ m2)) (g := fun y => decide (y ∈ m2 ++ [x.To])) (fun y hy => by simp at hy; simp [hy]) hm (by simpa using c2) (by simp)
         refine hZ2 _ ⟨hI.add hm (by simpa using c1) (by simpa using c2) (fun y => ait m2 x.To y), ?_⟩
         simp only [List.length_append, List.length_singleton]; omega
       ·simp only [c1, decide_false, cond_false]
        exact hZ2 _ ⟨hI.pass (.inl (by simpa using c1)), hI2⟩
      ·obtain ⟨m2, g2⟩ := s
       obtain ⟨hs, hs2⟩ := hs
       have hg : g = true := hg
       subst hg
       refine hZ (m2, g2) ⟨⟨hs.ri, fun hg2 x hx hf => by simpa using (hs.no hg2).2 x hx (by simpa using hf)⟩, hs2⟩ ?_
       cases g2
       ·have e : (fun x => decide (x ∈ m2)) = (fun x => decide (x ∈ m)) := funext (hs.no rfl).1
        simp only [e]; simp
       ·have := hs.yes rfl
        simp; omega
     ·have hd := h1.done (fun x hx hf => by simpa using h2 hg x hx (by simpa using hf))
      refine ⟨@ite Int (∀ h ∈ t.Links, Rch t.bL t.Links h.bJ) (Classical.propDecidable _) 0 10, (dS (fun x : bq => !decide (x.bJ ∈ m)) (some 10) (fun j x Z s => by simp only [aaw, aL]) _ _ _).trans ?_, rfl⟩
      by_cases hall : ∀ h ∈ t.Links, Rch t.bL t.Links h.bJ
      ·rw [if_pos hall, any_false.2 (fun x hx => by have := (hd x.bJ).2 (hall x hx); simpa using this)]; rfl
      ·rw [if_neg hall]
       have : t.Links.any (fun x : bq => !decide (x.bJ ∈ m)) = true := by
        refine Classical.byContradiction fun hn => hall fun h hh => (hd h.bJ).1 ?_
        have := any_false.1 (Bool.not_eq_true _ ▸ hn) h hh
        simpa using this
       rw [this]; rfl
   ·simp only [abb h, aL]
    refine (dS (qj x) (some 8) (by intros; rfl) _ _ _).trans ?_
    rw [hZ () trivial, oe]
    cases p.any (qj x)
    ·cases decide (x.To = t.bL) <;> rfl
    ·rfl
   ·cases oe t.bL [] t.Links <;> rfl
 ·rfl
theorem afn {a b c d : Int} : decide ((0:Int) ≤ orI [dO a b, dO c d]) = !(decide (a < b) || (decide (a = b) && decide (c < d))) := by
 by_cases h1 : a < b
 ·have e : dO a b = -1 := by unfold dO; rw [if_pos h1]
  simp [e, orI, h1]
 ·by_cases h2 : a = b
  ·subst h2
   have e : dO a a = 0 := jb.2 rfl
   by_cases h3 : c < d
   ·have e2 : dO c d = -1 := by unfold dO; rw [if_pos h3]
    simp [e, e2, orI, h3]
   ·by_cases h4 : d < c
    ·have e2 : dO c d = 1 := by unfold dO; rw [if_neg h3, if_pos h4]
     simp [e, e2, orI, h3]
    ·have e2 : dO c d = 0 := by unfold dO; rw [if_neg h3, if_neg h4]
     simp [e, e2, orI, h3]
  ·have h3 : b < a := by omega
   have e : dO a b = 1 := by unfold dO; rw [if_neg h1, if_pos h3]
   simp [e, orI, h1, h2]
theorem qw (t : bB) (hl : t.Links.length ≤ 1000000) : ei t = some (ckT t) := by
 unfold ei dN
 simp only [aL]
 unfold ckT
 show (bif !rtB t.bL then _ else _) = _
 cases rtB t.bL
 ·rfl
 simp only [Bool.not_true, cond_false, Bool.false_or]
 refine (dS pX (some 2) (fun j x Z s => by
  unfold pX rtB jn
  cases decide (1 ≤ x.bJ) && decide (x.bJ ≤ 99) <;> rfl) _ _ _).trans ?_
 cases t.Links.any pX
 ·simp only [cond_false]
  refine (lq ltH (some 25) (fun j x y r q s Z hL hj => by
   simp only [kg hL hj (by omega), aL, yM, aat, afn]
   show (bif !ltH y x then _ else _) = _
   cases ltH y x <;> rfl) _).trans ?_
  cases gf ltH t.Links
  ·rfl
  ·simp only [cond_true]
   refine (mU (L := t.Links) (fun p m => ∀ x, gL m x = true ↔ x = t.bL ∨ ∃ h ∈ p, h.To = x) (fun p l => bif oe t.bL p l then some 8 else some (@ite Int (∀ h ∈ t.Links, Rch t.bL t.Links h.bJ) (Classical.propDecidable _) 0 10)) (fun s _ => ?_) (fun p x r s Z h hi hZ => ?_) t.Links [] _ rfl ?_).trans ?_
   ·obtain ⟨m, h1, h2⟩ := aaT t hl
    simp only [h1, aL, oe, cond_false]
    refine (dS (fun x : bq => !gL m x.bJ) (some 10) (by intros; rfl) _ _ _).trans ?_
    by_cases hall : ∀ h ∈ t.Links, Rch t.bL t.Links h.bJ
    ·rw [if_pos hall, any_false.2 (fun x hx => by rw [(h2 x.bJ).2 (hall x hx)]; rfl)]; rfl
    ·rw [if_neg hall]
     have : t.Links.any (fun x : bq => !gL m x.bJ) = true := by
      refine Classical.byContradiction fun hn => hall fun h hh => (h2 h.bJ).1 ?_
      have := any_false.1 (Bool.not_eq_true _ ▸ hn) h hh
      simpa using this
     rw [this]; rfl
   ·show (bif gL s x.To then _ else _) = _
    rw [oe]
    have e : (p.any (qj x) || decide (x.To = t.bL)) = gL s x.To := by
     rw [Bool.eq_iff_iff, Bool.or_eq_true, List.any_eq_true, hi, decide_eq_true_eq]
     constructor
     ·rintro (⟨a, ha, hs⟩ | h)
      ·exact .inr ⟨a, ha, by simpa [qj] using hs⟩
      ·exact .inl h
     ·rintro (h | ⟨a, ha, hs⟩)
      ·exact .inr h
      ·exact .inl ⟨a, ha, by simpa [qj] using hs⟩
    rw [e]
    cases gL s x.To
    ·refine hZ _ fun y => ?_
     rw [rZ, Bool.or_eq_true, decide_eq_true_eq, hi]
     constructor
     ·rintro (h | h | ⟨a, ha, h⟩)
      ·exact .inr ⟨x, by simp, h.symm⟩
      ·exact .inl h
      ·exact .inr ⟨a, by simp [ha], h⟩
     ·rintro (h | ⟨a, ha, h⟩)
      ·exact .inr (.inl h)
      ·rcases List.mem_append.1 ha with ha | ha
       ·exact .inr (.inr ⟨a, ha, h⟩)
       ·simp at ha; rw [ha] at h; exact .inl h.symm
    ·rfl
   ·intro x
    rw [rZ]; simp [gL, cB]
   ·cases oe t.bL [] t.Links <;> rfl
 ·rfl
/-! ## what it is to be a tree -/
structure Vr (t : bB) : Prop where
 rt : 1 ≤ t.bL ∧ t.bL ≤ 99
 rng : ∀ h ∈ t.Links, (1 ≤ h.bJ ∧ h.bJ ≤ 99) ∧ 1 ≤ h.To ∧ h.To ≤ 99
 asc : t.Links.Pairwise fun a b => ltH a b = true
 dup : t.Links.Pairwise fun a b => a.To ≠ b.To
 nrt : ∀ h ∈ t.Links, h.To ≠ t.bL
 rch : ∀ h ∈ t.Links, Rch t.bL t.Links h.bJ
theorem zv (a b c : bq) (h1 : ltH a b = true) (h2 : ltH b c = true) : ltH a c = true := by
 simp [ltH] at *; omega
theorem xC {root : Int} : ∀ {l p : List bq}, oe root p l = false ↔ (∀ a ∈ p, ∀ b ∈ l, a.To ≠ b.To) ∧ (∀ b ∈ l, b.To ≠ root) ∧ l.Pairwise fun a b => a.To ≠ b.To
 | [], p => by simp [oe]
 | x :: r, p => by
  rw [oe, Bool.or_eq_false_iff, Bool.or_eq_false_iff, xC, any_false, List.pairwise_cons]
  constructor
  ·rintro ⟨⟨h1, h0⟩, h2, h4, h3⟩
   refine ⟨fun a ha b hb => ?_, fun b hb => ?_, fun b hb => h2 x (by simp) b hb, h3⟩
   ·rcases List.mem_cons.1 hb with rfl | hb
    ·have := h1 a ha; simpa [qj] using this
    ·exact h2 a (by simp [ha]) b hb
   ·rcases List.mem_cons.1 hb with rfl | hb
    ·simpa using h0
    ·exact h4 b hb
  ·rintro ⟨h1, h4, h2, h3⟩
   refine ⟨⟨fun a ha => by simpa [qj] using h1 a ha x (by simp), by simpa using h4 x (by simp)⟩, fun a ha b hb => ?_, fun b hb => h4 b (by simp [hb]), h3⟩
   rcases List.mem_append.1 ha with ha | ha
   ·exact h1 a ha b (by simp [hb])
   ·simp at ha; subst ha; exact h2 b hb
theorem yW {n : Int} : rtB n = true ↔ 1 ≤ n ∧ n ≤ 99 := by simp [rtB]
theorem aaD {h : bq} : pX h = false ↔ (1 ≤ h.bJ ∧ h.bJ ≤ 99) ∧ 1 ≤ h.To ∧ h.To ≤ 99 := by
 simp [pX, yW]
theorem yl {t : bB} : ckT t = 0 ↔ Vr t := by
 unfold ckT
 constructor
 ·intro h
  cases h1 : rtB t.bL with
  | false => simp [h1] at h
  | true =>
  cases h2 : t.Links.any pX with
  | true => simp [h1, h2] at h
  | false =>
  cases h3 : gf ltH t.Links with
  | false => simp [h1, h2, h3] at h
  | true =>
  cases h4 : oe t.bL [] t.Links with
  | true => simp [h1, h2, h3, h4] at h
  | false =>
  by_cases h5 : ∀ h ∈ t.Links, Rch t.bL t.Links h.bJ
  ·obtain ⟨d1, d2, d3⟩ := xC.1 h4
   exact ⟨yW.1 h1, fun x hx => aaD.1 (any_false.1 h2 x hx), mT zv h3, d3, d2, h5⟩
  ·simp only [h1, h2, h3, h4, if_neg h5] at h
   cases h
 ·intro h
  have h1 : rtB t.bL = true := yW.2 h.rt
  have h2 : t.Links.any pX = false := any_false.2 fun x hx => aaD.2 (h.rng x hx)
  have h3 : gf ltH t.Links = true := jo h.asc
  have h4 : oe t.bL [] t.Links = false := xC.2 ⟨by simp, h.nrt, h.dup⟩
  simp only [h1, h2, h3, h4, if_pos h.rch]; rfl
/-! ## ay -/
noncomputable def jH (t : bB) : List Int := if ckT t = 0 then gA (t.bL :: t.Links.map (·.To)) else []
theorem Vr.nodup {t : bB} (h : Vr t) : (t.bL :: t.Links.map (·.To)).Nodup := by
 rw [List.nodup_cons]
 refine ⟨fun hm => ?_, ?_⟩
 ·obtain ⟨x, hx, e⟩ := List.mem_map.1 hm
  exact h.nrt x hx e
 ·exact List.pairwise_map.2 h.dup
theorem aiu {t : bB} (h : Vr t) {x : Int} : x ∈ jH t ↔ x = t.bL ∨ ∃ h ∈ t.Links, h.To = x := by
 unfold jH; rw [if_pos (yl.2 h), vr]; simp
theorem adb (t : bB) : (jH t).Pairwise (· < ·) := by
 unfold jH
 by_cases h : ckT t = 0
 ·rw [if_pos h]; exact xu (yl.1 h).nodup
 ·rw [if_neg h]; simp
theorem wj (t : bB) : (jH t).length ≤ t.Links.length + 1 := by
 unfold jH
 split
 ·rw [uW]; simp
 ·simp
theorem wH (t : bB) (hl : t.Links.length ≤ 100000) : fL t = some (jH t) := by
 unfold fL jH
 simp only [qw t (by omega), aL]
 by_cases h : ckT t = 0
 ·simp only [h, decide_true, Bool.not_true, cond_false, if_true]
  refine (sD (fun _ : bq => true) (fun x : bq => x.To) t.Links 0 [t.bL] (fun j x Z s hx hs => by rw [uf hs]; rfl) (by simp; omega)).trans ?_
  rw [show t.Links.filter (fun _ : bq => true) = t.Links from List.filter_eq_self.2 fun _ _ => rfl]
  simp only [List.cons_append, List.nil_append, chk]
  rw [decide_eq_true (by simp; omega)]; rfl
 ·simp [h]
theorem ade (l : List Int) : ∀ (s : List Int), s.Pairwise (· < ·) → (l.foldl ki s).Pairwise (· < ·) ∧ (∀ x, x ∈ l.foldl ki s ↔ x ∈ s ∨ x ∈ l) ∧ (l.foldl ki s).length ≤ s.length + l.length := by
 induction l with
 | nil => intro s h; exact ⟨h, fun x => by simp, by simp⟩
 | cons a r ih =>
  intro s h
  obtain ⟨h1, h2, h3⟩ := ih (ki s a) (yT h)
  refine ⟨h1, fun x => ?_, ?_⟩
  ·rw [List.foldl_cons, h2, ug, List.mem_cons]
   constructor
   ·rintro ((h | h) | h) <;> simp [h]
   ·rintro (h | h | h) <;> simp [h]
  ·have := uh s a
   rw [List.foldl_cons, List.length_cons]; omega
theorem aaE {α β : Type} {B : Int → α → (List Int → Option β) → List Int → Option β} {K : List Int → Option β} (f : α → Int) (hB : ∀ j x Z (s : List Int), s.length ≤ 100000 → B j x Z s = Z (ki s (f x))) : ∀ (l : List α) (j : Nat) (s : List Int), s.length + l.length ≤ 100000 → bn l j B K s = K ((l.map f).foldl ki s)
 | [], _, s, _ => rfl
 | x :: r, j, s, h => by
  have := uh s (f x)
  simp only [List.length_cons] at h
  simp only [bn]
  rw [hB _ _ _ _ (by omega), aaE f hB r (j + 1) _ (by omega), List.map_cons, List.foldl_cons]
theorem lY (t : bB) (hl : t.Links.length ≤ 90000) : eV t = some (jH t) := by
 unfold eV jH
 simp only [pE t (by omega), aL]
 by_cases h : ckT t = 0
 ·simp only [h, decide_true, Bool.not_true, cond_false, if_true]
  refine (aaE (fun x : bq => x.To) (fun j x Z s hs => by rw [af8 _ _ hs]; rfl) t.Links 0 [t.bL] (by simp; omega)).trans ?_
  obtain ⟨h1, h2, h3⟩ := ade (t.Links.map (·.To)) [t.bL] (by simp)
  rw [vq h1 (xu (yl.1 h).nodup) (fun x => by rw [h2, vr]; simp)]
 ·simp [h]
theorem adf (l : List Int) (hl : l.length ≤ 1000000) : iP l = some (gf (fun a b => decide (a < b)) l) := by
 unfold iP
 refine (lq (fun a b : Int => decide (a < b)) (some false) (fun j x y r q s Z hL hj => by
  simp only [kg hL hj (by omega), aL]
  by_cases h : y < x
  ·have : ¬ x ≤ y := by omega
   simp [h, this]
  ·have : x ≤ y := by omega
   simp [h, this]) _).trans ?_
 cases gf (fun a b : Int => decide (a < b)) l <;> rfl
end Go.Proofs.Ytmfehenfoepkfaa
