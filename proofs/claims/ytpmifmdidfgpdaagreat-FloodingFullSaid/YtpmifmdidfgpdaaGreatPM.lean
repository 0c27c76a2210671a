/- Several texts in one. No condition but those that stand in each. -/
import Derived.Test.YtpmifmdidfgpdaaGreatBA
import Derived.Test.YtpmifmdidfgpdaaGreatDA
/- Plain facts on the words in which the program is written gB. No program in sight. No condition. -/
namespace Go.Proofs.YtpmifmdidfgpdaaGreat
set_option linter.all false
open Go
theorem aP {α β : Type} (a : α) (k : α → Option β) : bnd (some a) k = k a := rfl
theorem nE {β : Type} {c : Bool} {k : Option β} (h : c = true) : chk c k = k := by subst h; rfl
theorem nT {α : Type} {p : Prop} [Decidable p] {x y : α} : (bif decide p then x else y) = if p then x else y := by
 by_cases h : p <;> simp [h]
/-- a loop along a list comes to what 'f' aov -/
theorem yB {α σ β : Type} {B : Int → α → (σ → Option β) → σ → Option β} {K : σ → Option β} (f : List α → σ → Option β) (hn : ∀ s, K s = f [] s)
  (hc : ∀ (j : Int) x r s Z, (∀ s', Z s' = f r s') → B j x Z s = f (x :: r) s) : ∀ (l : List α) (j : Nat) (s : σ), bO l j B K s = f l s
 | [], _, s => hn s
 | x :: r, j, s => hc j x r s _ fun s' => yB f hn hc r (j + 1) s'
/-- the same, with what was apX -/
theorem zR {α σ β : Type} {B : Int → α → (σ → Option β) → σ → Option β} {K : σ → Option β} {L : List α} (f : List α → List α → σ → Option β) (hn : ∀ s, K s = f L [] s)
  (hc : ∀ p x r s Z, p ++ x :: r = L → (∀ s', Z s' = f (p ++ [x]) r s') → B (p.length : Int) x Z s = f p (x :: r) s) : ∀ (l p : List α) (s : σ), p ++ l = L → bO l p.length B K s = f p l s
 | [], p, s, h => by rw [List.append_nil] at h; subst h; exact hn s
 | x :: r, p, s, h => hc p x r s _ h fun s' => by
   have := zR (B := B) (K := K) f hn hc r (p ++ [x]) s' (by simpa using h)
   rw [List.length_append] at this
   exact this
/-- what is so of a result -/
def Ok {β : Type} (o : Option β) (Q : β → Prop) : Prop := ∃ r, o = some r ∧ Q r
theorem Ok.s {β : Type} {Q : β → Prop} {r : β} (h : Q r) : Ok (some r) Q := ⟨r, rfl, h⟩
theorem Ok.bnd {α β : Type} {o : Option α} {k : α → Option β} {P : α → Prop} {Q : β → Prop} (h : Ok o P) (hk : ∀ a, P a → Ok (k a) Q) : Ok (bnd o k) Q := by
 obtain ⟨a, rfl, ha⟩ := h; exact hk a ha
theorem Ok.cs {β : Type} {c : Bool} {x y : Option β} {Q : β → Prop} (h1 : c = true → Ok x Q) (h2 : c = false → Ok y Q) : Ok (bif c then x else y) Q := by
 cases c
 ·exact h2 rfl
 ·exact h1 rfl
theorem Ok.chk {β : Type} {c : Bool} {k : Option β} {Q : β → Prop} (h : c = true) (hk : Ok k Q) : Ok (chk c k) Q := by subst h; exact hk
theorem Ok.jn {σ β : Type} {k : σ → Option β} {t : (σ → Option β) → Option β} {Q : β → Prop} (R : σ → Prop) (h1 : ∀ s, R s → Ok (k s) Q) (h2 : ∀ J, (∀ s, R s → Ok (J s) Q) → Ok (t J) Q) : Ok (jn k t) Q := h2 k h1
theorem Ok.mono {β : Type} {o : Option β} {Q Q' : β → Prop} (h : Ok o Q) (hq : ∀ r, Q r → Q' r) : Ok o Q' := by
 obtain ⟨r, h1, h2⟩ := h; exact ⟨r, h1, hq r h2⟩
theorem Ok.bO {α σ β : Type} {B : Int → α → (σ → Option β) → σ → Option β} {K : σ → Option β} {Q : β → Prop} (I : Nat → σ → Prop)
  (hc : ∀ (j : Nat) x s Z, I j s → (∀ s', I (j + 1) s' → Ok (Z s') Q) → Ok (B (j : Int) x Z s) Q) : ∀ (l : List α) (j : Nat) (s : σ), I j s → (∀ s, I (j + l.length) s → Ok (K s) Q) → Ok (bO l j B K s) Q
 | [], j, s, h, hn => hn s (by simpa using h)
 | x :: r, j, s, h, hn => hc j x s _ h fun s' h' => Ok.bO I hc r (j + 1) s' h' fun s hs => hn s (by rwa [List.length_cons, ← Nat.add_assoc, Nat.add_right_comm])
theorem Ok.fW {σ β : Type} {B : Int → (σ → Option β) → σ → Option β} {K : Int → σ → Option β} {Q : β → Prop} (I : Int → σ → Prop) (lo hi : Int)
  (hc : ∀ (i : Int) s Z, lo ≤ i → i < hi → I i s → (∀ s', I (i + 1) s' → Ok (Z s') Q) → Ok (B i Z s) Q) (hn : ∀ i s, lo ≤ i → (lo ≤ hi → i = hi) → I i s → Ok (K i s) Q) : ∀ (n : Nat) (i : Int) (s : σ), n = (hi - i).toNat → lo ≤ i → (lo ≤ hi → i ≤ hi) → I i s → Ok (fW n i B K s) Q
 | 0, i, s, hn0, h1, h2, h => hn i s h1 (fun hh => by have := h2 hh; omega) h
 | n + 1, i, s, hn0, h1, h2, h => hc i s _ h1 (by omega) h fun s' h' => Ok.fW I lo hi hc hn n (i + 1) s' (by omega) (by omega) (fun _ => by omega) h'
theorem Ok.iter {σ β : Type} {F : (σ → Option β) → σ → Option β} {Q : β → Prop} (I : σ → Prop) (μ : σ → Nat)
  (hc : ∀ s Z, I s → (∀ s', I s' → μ s' < μ s → Ok (Z s') Q) → Ok (F Z s) Q) : ∀ (n : Nat) (s : σ), I s → μ s < n → Ok (iter F n s) Q
 | 0, s, _, h => by omega
 | n + 1, s, h, hm => hc s _ h fun s' h' hm' => Ok.iter I μ hc n s' h' (by omega)
theorem Ok.whl {σ β : Type} {F : (σ → Option β) → σ → Option β} {Q : β → Prop} (I : σ → Prop) (μ : σ → Nat) {s : σ} (h : I s) (hm : μ s < 1099511627776)
  (hc : ∀ s Z, I s → (∀ s', I s' → μ s' < μ s → Ok (Z s') Q) → Ok (F Z s) Q) : Ok (whl F s) Q := Ok.iter I μ hc fuel s h hm
theorem Ok.get {β : Type} {o : Option β} {Q : β → Prop} (h : Ok o Q) : ∃ r, o = some r ∧ Q r := h
theorem Ok.eq {β : Type} {o : Option β} {r : β} (h : Ok o (fun x => x = r)) : o = some r := by obtain ⟨x, h1, rfl⟩ := h; exact h1
theorem iS {α : Type} (p : List α) (x : α) (r : List α) : elO (p ++ x :: r) (p.length : Int) = some x := by
 unfold elO; rw [if_pos (by omega)]; simp
theorem pJ {α : Type} {l : List α} {i : Int} (h0 : 0 ≤ i) (h : i < l.length) : Ok (elO l i) (fun x => x ∈ l ∧ l[i.toNat]? = some x) := by
 unfold elO; rw [if_pos h0]
 have : i.toNat < l.length := by omega
 exact ⟨l[i.toNat], List.getElem?_eq_getElem this, List.getElem_mem this, List.getElem?_eq_getElem this⟩
theorem dJ {α : Type} {l r : List α} (h : l.length + r.length ≤ 549755813888) : cI l r = some (l ++ r) := by unfold cI; rw [if_pos (by unfold cap; exact h)]
theorem ia {α : Type} {l r : List α} (h : l.length + r.length ≤ 549755813888) : Ok (cI l r) (fun m => m = l ++ r ∧ m.length = l.length + r.length) := ⟨_, dJ h, rfl, by simp⟩
theorem afv {α : Type} {l : List α} {i : Int} {x : α} (h0 : 0 ≤ i) (h : i < l.length) : Ok (iV l i x) (fun m => m = l.set i.toNat x ∧ m.length = l.length) := by
 unfold iV; rw [if_pos ⟨h0, h⟩]; exact ⟨_, rfl, rfl, by simp⟩
theorem aax {α : Type} {l : List α} {a b : Int} (h : 0 ≤ a ∧ a ≤ b ∧ b ≤ l.length) : Ok (kX l a b) (fun m => m = (l.take b.toNat).drop a.toNat ∧ (m.length : Int) = b - a) := by
 unfold kX; rw [if_pos h]; exact ⟨_, rfl, rfl, by simp; omega⟩
/-- the first loop: does any do -/
theorem rX {α σ β : Type} {B : Int → α → (σ → Option β) → σ → Option β} {K : σ → Option β} (p : α → Bool) (a : Option β) (hB : ∀ j x Z s, B j x Z s = bif p x then a else Z s) (l : List α) (j : Nat) (s : σ) : bO l j B K s = bif l.any p then a else K s :=
 yB (f := fun l s => bif l.any p then a else K s) (fun s => rfl) (fun j x r s Z hZ => by
  rw [hB, hZ, List.any_cons]; cases p x <;> rfl) l j s
end Go.Proofs.YtpmifmdidfgpdaaGreat

/- Plain: the two Checks of a zS aaK to the same. No condition. -/
namespace Go.Proofs.YtpmifmdidfgpdaaGreat
set_option linter.all false
open Go
def rF (n : Int) : Bool := decide (1 ≤ n) && decide (n ≤ 1000)
def hasB (t : aH) (r : Int) : Bool := t.aK.any fun x => decide (x.ID = r)
def xR (r : aX) : Bool := decide (r.ID < 1) || decide (99 < r.ID)
def vj (l : aT) : Bool := !rF l.jh || !rF l.iN || decide (l.bY < 0) || decide (1000 < l.bY)
def ltL (a b : aT) : Bool := decide (a.A < b.A) || (decide (a.A = b.A) && decide (a.B < b.B))
def fA {α : Type} (p : α → α → Bool) : List α → Bool
 | a :: b :: r => p a b && fA p (b :: r)
 | _ => true
def kA (t : aH) : Bool := t.aK.any xR
def kB (t : aH) : Bool := fA (fun a b => decide (a.ID < b.ID)) t.aK
def kC (t : aH) : Bool := t.Links.any vj
def kD (t : aH) : Bool := t.Links.any fun l => !hasB t l.A || !hasB t l.B
def kE (t : aH) : Bool := t.Links.any fun l => decide (l.B ≤ l.A)
def kF (t : aH) : Bool := fA ltL t.Links
def mT (t : aH) : Int :=
 bif decide (24 < (t.aK.length : Int)) || decide (60 < (t.Links.length : Int)) then 3
 else bif kA t then 2 else bif kB t then (bif kC t then 2 else bif kD t then 4 else bif kE t then 8 else bif kF t then 0 else 25) else 25
/-- a loop bB looks at aeQ, behind the first -/
theorem zT {α σ β : Type} {B : Int → α → (σ → Option β) → σ → Option β} {K : σ → Option β} {L : List α} (p : α → α → Bool) (a : Option β)
  (hB : ∀ (j : Nat) x y r q s Z, L = q ++ y :: x :: r → j = q.length + 1 → B (j : Int) x Z s = bif p y x then Z s else a) : ∀ (r q : List α) (y : α) (s : σ), L = q ++ y :: r → bO r (q.length + 1) B K s = bif fA p (y :: r) then K s else a
 | [], q, y, s, h => rfl
 | x :: r, q, y, s, h => by
  simp only [bO]
  rw [hB (q.length + 1) x y r q s _ h rfl]
  have := zT (B := B) (K := K) p a hB r (q ++ [y]) x s (by simpa using h)
  simp only [List.length_append, List.length_cons, List.length_nil] at this
  rw [this]
  simp only [fA]
  cases p y x <;> rfl
theorem xS {α σ β : Type} {B : Int → α → (σ → Option β) → σ → Option β} {K : σ → Option β} {L : List α} (p : α → α → Bool) (a : Option β)
  (hB : ∀ (j : Nat) x y r q s Z, L = q ++ y :: x :: r → j = q.length + 1 → B (j : Int) x Z s = bif p y x then Z s else a) (s : σ) : bO (L.drop 1) 1 B K s = bif fA p L then K s else a := by
 cases L with
 | nil => rfl
 | cons y r => exact zT (B := B) (K := K) p a hB r [] y s rfl
theorem xT {α σ β : Type} {B : Int → α → (σ → Option β) → σ → Option β} {K : σ → Option β} {L : List α} (p : α → α → Bool) (a : Option β) (h0 : ∀ x Z s, B ((0 : Nat) : Int) x Z s = Z s)
  (hB : ∀ (j : Nat) x y r q s Z, L = q ++ y :: x :: r → j = q.length + 1 → B (j : Int) x Z s = bif p y x then Z s else a) (s : σ) : bO L 0 B K s = bif fA p L then K s else a := by
 cases L with
 | nil => rfl
 | cons y r =>
  simp only [bO]
  rw [h0]
  exact zT (B := B) (K := K) p a hB r [] y s rfl
/-- the place ahead -/
theorem mb {α : Type} {L : List α} {j : Nat} {y x : α} {r q : List α} (h : L = q ++ y :: x :: r) (hj : j = q.length + 1) (hL : (L.length : Int) ≤ 9223372036854775807) : elO L (w64 ((j : Int) - 1)) = some y := by
 have hl : q.length + 2 ≤ L.length := by rw [h]; simp
 rw [cr (by omega) (by omega), show (j : Int) - 1 = (q.length : Int) by omega, h, iS]
theorem ail (n : Int) : oA n = some (rF n) := rfl
theorem adS (t : aH) (r : Int) : lZ t r = some (hasB t r) := by
 unfold lZ
 refine (rX (fun x : aX => decide (x.ID = r)) (some true) ?_ _ _ _).trans ?_
 ·intros; rfl
 ·unfold hasB; cases t.aK.any _ <;> rfl
theorem sQ (t : aH) : iG t = some (mT t) := by
 unfold iG mT
 by_cases hlen : (decide (24 < (t.aK.length : Int)) || decide (60 < (t.Links.length : Int))) = true
 ·rw [hlen]; rfl
 rw [Bool.not_eq_true] at hlen
 rw [hlen]
 simp only [cond_false]
 simp only [Bool.or_eq_false_iff, decide_eq_false_iff_not] at hlen
 refine (rX xR (some 2) ?_ _ _ _).trans ?_
 ·intros; rfl
 unfold kA
 cases t.aK.any xR
 case true => rfl
 simp only [cond_false]
 refine (xS (fun a b : aX => decide (a.ID < b.ID)) (some 25) ?_ _).trans ?_
 ·intro j x y r q s Z h hj
  simp only [mb h hj (by omega), aP, nT]
  split <;> split <;> first | rfl | omega
 unfold kB
 cases fA _ t.aK
 case false => rfl
 simp only [cond_true]
 refine (rX vj (some 2) ?_ _ _ _).trans ?_
 ·intro j x Z s
  simp only [jn, ail, aP, vj]
  cases rF x.jh <;> cases rF x.iN <;> simp [nT] <;> (try split) <;> (try split) <;> simp_all <;> omega
 unfold kC
 cases t.Links.any vj
 case true => rfl
 simp only [cond_false]
 refine (rX (fun l => !hasB t l.A || !hasB t l.B) (some 4) ?_ _ _ _).trans ?_
 ·intro j x Z s
  simp only [jn, adS, aP]
  cases hasB t x.A <;> cases hasB t x.B <;> rfl
 unfold kD
 cases t.Links.any _
 case true => rfl
 simp only [cond_false]
 refine (rX (fun l => decide (l.B ≤ l.A)) (some 8) ?_ _ _ _).trans ?_
 ·intros; rfl
 unfold kE
 cases t.Links.any _
 case true => rfl
 simp only [cond_false]
 refine (xS ltL (some 25) ?_ _).trans ?_
 ·intro j x y r q s Z h hj
  have e : (decide (x.A < y.A) || (decide (y.A = x.A) && decide (x.B ≤ y.B))) = !ltL y x := by
   rw [Bool.eq_iff_iff]; simp [ltL]; omega
  simp only [mb h hj (by omega), aP]
  rw [e]
  cases ltL y x <;> rfl
 unfold kF
 cases fA ltL t.Links <;> rfl
/-! ## the xz -/
theorem wF {α σ : Type} {B : Int → α → (σ → Option Int) → σ → Option Int} {K : σ → Option Int} (p : α → Bool) (hB : ∀ j x Z s, B j x Z s = bif p x then some j else Z s) (hK : ∀ s, K s = some (-1)) : ∀ (l : List α) (j : Nat) (s : σ), ∃ r, bO l j B K s = some r ∧ decide (0 ≤ r) = l.any p
 | [], j, s => ⟨-1, hK s, rfl⟩
 | x :: r, j, s => by
  simp only [bO, hB, List.any_cons]
  cases p x
  ·simpa using wF p hB hK r (j + 1) s
  ·exact ⟨j, rfl, by simp⟩
theorem cfR (l : List aX) (f : aX → Option Bool) (p : aX → Bool) (hf : ∀ x, f x = some (p x)) : cV l f = some (l.any p) := by
 unfold cV dQ
 obtain ⟨r, h1, h2⟩ := wF (B := fun (j1 : Int) (e1 : aX) (Z1 : Unit → Option Int) (sg : Unit) => match sg with | () => bnd (f e1) fun (af : Bool) => bif af then some (j1 : Int) else Z1 ()) (K := fun (sg : Unit) => match sg with | () => some (-1:Int)) p (fun j x Z s => by simp only [hf, aP]) (fun _ => rfl) l 0 ()
 simp only [h1, aP, h2]
theorem cfL (l : List aT) (f : aT → Option Bool) (p : aT → Bool) (hf : ∀ x, f x = some (p x)) : cz l f = some (l.any p) := by
 unfold cz en
 obtain ⟨r, h1, h2⟩ := wF (B := fun (j1 : Int) (e1 : aT) (Z1 : Unit → Option Int) (sg : Unit) => match sg with | () => bnd (f e1) fun (af : Bool) => bif af then some (j1 : Int) else Z1 ()) (K := fun (sg : Unit) => match sg with | () => some (-1:Int)) p (fun j x Z s => by simp only [hf, aP]) (fun _ => rfl) l 0 ()
 simp only [h1, aP, h2]
def dY (x y : Int) : Int := if x < y then -1 else if y < x then 1 else 0
theorem aa9 (x y : Int) : ee x y = some (dY x y) := by
 unfold ee lK dY
 simp only [aP, decide_true, Bool.not_true, cond_false, nT]
 split <;> (try split) <;> rfl
theorem adT {x y : Int} : dY x y < 0 ↔ x < y := by unfold dY; split <;> (try split) <;> omega
theorem oU {x y : Int} : dY x y = 0 ↔ x = y := by unfold dY; split <;> (try split) <;> omega
def orI : List Int → Int
 | [] => 0
 | x :: r => if x = 0 then orI r else x
theorem apY (l : List Int) : mE l = some (orI l) := by
 unfold mE
 refine (yB (f := fun l _ => some (orI l)) ?_ ?_ _ _ _)
 ·intros; rfl
 ·intro j x r s Z hZ
  simp only [orI, hZ]
  by_cases h : x = 0 <;> simp [h]
def cmpL (a b : aT) : Int := orI [dY a.A b.A, dY a.B b.B]
theorem y3 (a b : aT) : gV a b = some (cmpL a b) := by
 unfold gV; simp only [aa9, aP, apY]; rfl
theorem acT (r : aX) (id : Int) : jE r id = some (dY r.ID id) := by
 unfold jE; simp only [aa9, aP]
theorem yC {a b : aT} : cmpL a b < 0 ↔ ltL a b = true := by
 have : cmpL a b < 0 ↔ a.A < b.A ∨ (a.A = b.A ∧ a.B < b.B) := by
  simp only [cmpL, orI]
  split
  ·rename_i h
   rw [oU] at h
   split
   ·rename_i h2; rw [oU] at h2; omega
   ·rw [adT]; omega
  ·rename_i h
   rw [oU] at h
   rw [adT]; omega
 rw [this]; simp [ltL]
theorem cmpL_eq {a b : aT} : cmpL a b = 0 ↔ a.A = b.A ∧ a.B = b.B := by
 simp only [cmpL, orI]
 split
 ·rename_i h
  rw [oU] at h
  split
  ·rename_i h2; rw [oU] at h2; omega
  ·rename_i h2; rw [oU] at h2 ⊢; omega
 ·rename_i h
  rw [oU] at h ⊢; omega
/-! the binary search -/
def bsG {α : Type} [Inhabited α] (f : α → Int) (l : List α) (i j : Nat) : Nat :=
 if h : i < j then if f (el l ((i + j) / 2 : Nat)) < 0 then bsG f l ((i + j) / 2 + 1) j else bsG f l i ((i + j) / 2) else i
 termination_by j - i
 decreasing_by all_goals omega
def bsR {α : Type} [Inhabited α] (f : α → Int) (l : List α) : Nat := bsG f l 0 l.length
def bsT {α : Type} [Inhabited α] (f : α → Int) (l : List α) : Bool := decide (bsR f l < l.length) && decide (f (el l (bsR f l)) = 0)
theorem afw {α : Type} [Inhabited α] {f : α → Int} {l : List α} {i j : Nat} (h : i < j) (hf : f (el l ((i + j) / 2 : Nat)) < 0) : bsG f l i j = bsG f l ((i + j) / 2 + 1) j := by
 rw [bsG, dif_pos h, if_pos hf]
theorem afx {α : Type} [Inhabited α] {f : α → Int} {l : List α} {i j : Nat} (h : i < j) (hf : ¬ f (el l ((i + j) / 2 : Nat)) < 0) : bsG f l i j = bsG f l i ((i + j) / 2) := by
 rw [bsG, dif_pos h, if_neg hf]
theorem aba {α : Type} [Inhabited α] {f : α → Int} {l : List α} {i j : Nat} (h : j ≤ i) : bsG f l i j = i := by
 rw [bsG, dif_neg (by omega)]
theorem uz {α : Type} [Inhabited α] {l : List α} {i : Nat} (h : i < l.length) : el l i = l[i] := by
 simp [el, List.getD_eq_getElem?_getD, h]
theorem acU {α : Type} [Inhabited α] {l : List α} {i : Nat} (h : i < l.length) : el l i ∈ l := by
 rw [uz h]; exact List.getElem_mem h
theorem sR {α : Type} [Inhabited α] {l : List α} {i : Nat} (h : i < l.length) : elO l (i : Int) = some (el l i) := by
 unfold elO; rw [if_pos (by omega), uz h]; simp [h]
theorem abb {i j : Nat} (h : i + j ≤ 4611686018427387904) : w64 (Int.fdiv (IntKind.wrap .u64 (w64 ((i : Int) + (j : Int)))) (2 ^ min (1:Int).toNat 64)) = (((i + j) / 2 : Nat) : Int) := by
 have e1 : w64 ((i : Int) + (j : Int)) = ((i + j : Nat) : Int) := by rw [cr (by omega) (by omega)]; simp
 have e2 : IntKind.wrap .u64 ((i + j : Nat) : Int) = ((i + j : Nat) : Int) := aj9 (by omega) (by omega)
 rw [e1, e2]
 have e3 : (2 : Int) ^ min (1:Int).toNat 64 = 2 := rfl
 rw [e3, Int.fdiv_eq_ediv_of_nonneg _ (by omega)]
 rw [cr (by omega) (by omega)]; simp
theorem abc {α : Type} [Inhabited α] {F : ((Int × Int) → Option (Int × Bool)) → (Int × Int) → Option (Int × Bool)} (l : List α) (f : α → Int) (hl : l.length ≤ 1000000)
  (hF : ∀ (i j : Nat) Z, j ≤ l.length → F Z ((i : Int), (j : Int)) = if h : i < j then (if f (el l ((i + j) / 2 : Nat)) < 0 then Z ((((i + j) / 2 + 1 : Nat) : Int), (j : Int)) else Z ((i : Int), (((i + j) / 2 : Nat) : Int))) else some ((i : Int), decide (i < l.length) && decide (f (el l i) = 0))) :
  whl F ((0 : Int), (l.length : Int)) = some ((bsR f l : Int), bsT f l) := by
 refine Ok.eq (Ok.whl (I := fun s => ∃ i j : Nat, s = ((i : Int), (j : Int)) ∧ i ≤ j ∧ j ≤ l.length ∧ bsG f l i j = bsR f l) (μ := fun s => (s.2 - s.1).toNat) ⟨0, l.length, rfl, by omega, by omega, rfl⟩ ?_ ?_)
 ·show ((l.length : Int) - 0).toNat < _; omega
 ·rintro s Z ⟨i, j, rfl, h1, h2, h3⟩ hz
  rw [hF i j Z h2]
  split
  ·rename_i hij
   split
   ·rename_i hf
    exact hz _ ⟨_, _, rfl, by omega, h2, by rw [← h3, afw hij hf]⟩ (by show ((j : Int) - _).toNat < ((j : Int) - i).toNat; omega)
   ·rename_i hf
    exact hz _ ⟨_, _, rfl, by omega, by omega, by rw [← h3, afx hij hf]⟩ (by show ((((i + j) / 2 : Nat) : Int) - i).toNat < ((j : Int) - i).toNat; omega)
  ·rename_i hij
   have : bsR f l = i := by rw [← h3, aba (by omega)]
   exact ⟨_, rfl, by simp only [bsT, this]⟩
theorem apZ (l : List aX) (x : Int) (c : aX → Int → Option Int) (f : aX → Int) (hl : l.length ≤ 1000000) (hc : ∀ r, c r x = some (f r)) : cn l x c = some ((bsR f l : Int), bsT f l) := by
 unfold cn
 refine abc l f hl fun i j Z hj => ?_
 by_cases hij : i < j
 ·rw [dif_pos hij]
  simp only [abb (i := i) (j := j) (by omega), sR (show (i + j) / 2 < l.length by omega), aP, hc, nT]
  rw [if_pos (by omega), cr (by omega) (by omega)]
  rfl
 ·rw [dif_neg hij]
  simp only [nT]
  rw [if_neg (by omega)]
  by_cases hi : i < l.length
  ·rw [if_pos (by omega), sR hi]; simp only [aP, hc]; simp [hi]
  ·rw [if_neg (by omega)]; simp [hi]
theorem bsLk (l : List aT) (x : aT) (c : aT → aT → Option Int) (f : aT → Int) (hl : l.length ≤ 1000000) (hc : ∀ r, c r x = some (f r)) : cA l x c = some ((bsR f l : Int), bsT f l) := by
 unfold cA
 refine abc l f hl fun i j Z hj => ?_
 by_cases hij : i < j
 ·rw [dif_pos hij]
  simp only [abb (i := i) (j := j) (by omega), sR (show (i + j) / 2 < l.length by omega), aP, hc, nT]
  rw [if_pos (by omega), cr (by omega) (by omega)]
  rfl
 ·rw [dif_neg hij]
  simp only [nT]
  rw [if_neg (by omega)]
  by_cases hi : i < l.length
  ·rw [if_pos (by omega), sR hi]; simp only [aP, hc]; simp [hi]
  ·rw [if_neg (by omega)]; simp [hi]
theorem aim {α : Type} [Inhabited α] {f : α → Int} {l : List α} (hm : ∀ a b : Nat, a ≤ b → b < l.length → f (el l a) ≤ f (el l b)) : ∀ (n i j : Nat), j - i ≤ n → i ≤ j → j ≤ l.length → (∀ m : Nat, m < i → f (el l m) < 0) → (∀ m : Nat, j ≤ m → m < l.length → 0 ≤ f (el l m)) →
  bsG f l i j ≤ l.length ∧ (∀ m : Nat, m < bsG f l i j → f (el l m) < 0) ∧ (∀ m : Nat, bsG f l i j ≤ m → m < l.length → 0 ≤ f (el l m)) := by
 intro n
 induction n with
 | zero =>
  intro i j hn hij hj h1 h2
  rw [aba (by omega)]
  exact ⟨by omega, h1, fun m hm' => h2 m (by omega)⟩
 | succ n ih =>
  intro i j hn hij hj h1 h2
  by_cases h : i < j
  ·by_cases hf : f (el l ((i + j) / 2 : Nat)) < 0
   ·rw [afw h hf]
    refine ih _ _ (by omega) (by omega) hj (fun m hm' => ?_) h2
    have := hm m ((i + j) / 2) (by omega) (by omega)
    omega
   ·rw [afx h hf]
    refine ih _ _ (by omega) (by omega) (by omega) h1 (fun m hm' hml => ?_)
    have := hm ((i + j) / 2) m hm' hml
    omega
  ·rw [aba (by omega)]
   exact ⟨by omega, h1, fun m hm' => h2 m (by omega)⟩
theorem acV {α : Type} [Inhabited α] {f : α → Int} {l : List α} (hm : ∀ a b : Nat, a ≤ b → b < l.length → f (el l a) ≤ f (el l b)) :
  bsR f l ≤ l.length ∧ (∀ m : Nat, m < bsR f l → f (el l m) < 0) ∧ (∀ m : Nat, bsR f l ≤ m → m < l.length → 0 ≤ f (el l m)) :=
 aim hm l.length 0 l.length (by omega) (by omega) (by omega) (fun m h => by omega) (fun m h1 h2 => by omega)
theorem abd {α : Type} [Inhabited α] {f : α → Int} {l : List α} (hm : ∀ a b : Nat, a ≤ b → b < l.length → f (el l a) ≤ f (el l b)) : bsT f l = true ↔ ∃ x ∈ l, f x = 0 := by
 obtain ⟨h1, h2, h3⟩ := acV hm
 simp only [bsT, Bool.and_eq_true, decide_eq_true_eq]
 constructor
 ·rintro ⟨q1, q2⟩
  exact ⟨_, acU q1, q2⟩
 ·rintro ⟨x, hx, hf⟩
  obtain ⟨m, hm1, rfl⟩ := List.getElem_of_mem hx
  rw [← uz hm1] at hf
  have hle : bsR f l ≤ m := by
   by_cases q : m < bsR f l
   ·have := h2 m q; omega
   ·omega
  have hlt : bsR f l < l.length := by omega
  have := h3 _ (Nat.le_refl _) hlt
  have := hm _ _ hle hm1
  exact ⟨hlt, by omega⟩
theorem qj {α : Type} [Inhabited α] {f : α → Int} {l : List α} (h : l.Pairwise (fun a b => f a ≤ f b)) : ∀ a b : Nat, a ≤ b → b < l.length → f (el l a) ≤ f (el l b) := by
 intro a b hab hb
 rcases Nat.lt_or_eq_of_le hab with hab | rfl
 ·have := List.pairwise_iff_getElem.1 h a b (by omega) hb hab
  rwa [uz (by omega), uz hb]
 ·exact Int.le_refl _
theorem oL {α : Type} {p : α → α → Bool} (ht : ∀ a b c, p a b = true → p b c = true → p a c = true) : ∀ {l : List α}, fA p l = true → l.Pairwise (fun a b => p a b = true)
 | [], _ => List.Pairwise.nil
 | [x], _ => by simp
 | a :: b :: r, h => by
  simp only [fA, Bool.and_eq_true] at h
  have ih := oL ht h.2
  rw [List.pairwise_cons]
  refine ⟨fun z hz => ?_, ih⟩
  rcases List.mem_cons.1 hz with rfl | hz
  ·exact h.1
  ·exact ht _ _ _ h.1 ((List.pairwise_cons.1 ih).1 z hz)
theorem mU {α : Type} {p : α → α → Bool} : ∀ {l : List α}, l.Pairwise (fun a b => p a b = true) → fA p l = true
 | [], _ => rfl
 | [x], _ => rfl
 | a :: b :: r, h => by
  rw [List.pairwise_cons] at h
  simp only [fA, Bool.and_eq_true]
  exact ⟨h.1 b (by simp), mU h.2⟩
theorem afy {t : aH} (h : kB t = true) : t.aK.Pairwise (fun a b => a.ID < b.ID) := by
 have := oL (p := fun a b : aX => decide (a.ID < b.ID)) (fun a b c h1 h2 => by simp at h1 h2 ⊢; omega) h
 exact this.imp (fun h => by simpa using h)
theorem amN {t : aH} (h : kB t = true) (id : Int) : ∀ a b : Nat, a ≤ b → b < t.aK.length → dY (el t.aK a).ID id ≤ dY (el t.aK b).ID id :=
 qj (f := fun r : aX => dY r.ID id) ((afy h).imp (fun {a b} h => by unfold dY; split <;> (try split) <;> (try split) <;> (try split) <;> omega))
def ain (t : aH) (id : Int) : Bool := !bsT (fun r => dY r.ID id) t.aK
theorem adU {t : aH} (h : kB t = true) (id : Int) : ain t id = !hasB t id := by
 simp only [ain, hasB]
 congr 1
 rw [Bool.eq_iff_iff, abd (amN h id)]
 simp [oU]
theorem xU (t : aH) : gd t = some (mT t) := by
 unfold gd mT
 by_cases hlen : (decide (24 < (t.aK.length : Int)) || decide (60 < (t.Links.length : Int))) = true
 ·rw [hlen]; rfl
 rw [Bool.not_eq_true] at hlen
 rw [hlen]
 simp only [cond_false]
 simp only [Bool.or_eq_false_iff, decide_eq_false_iff_not] at hlen
 rw [cfR t.aK _ xR (fun x => by simp only [lM, iH, aP, xR]; congr 1; rw [Bool.eq_iff_iff]; simp)]
 simp only [aP]
 unfold kA
 cases t.aK.any xR
 case true => rfl
 simp only [cond_false]
 refine (xT (fun a b : aX => decide (a.ID < b.ID)) (some 25) ?_ ?_ _).trans ?_
 ·intros; rfl
 ·intro j x y r q s Z h hj
  simp only [jn, mb h hj (by omega), aP, nT]
  rw [if_pos (by omega)]
  split <;> split <;> first | rfl | omega
 cases hB : kB t
 case false => unfold kB at hB; rw [hB]; rfl
 have hB' := hB
 unfold kB at hB'
 rw [hB']
 simp only [cond_true]
 rw [cfL t.Links jt vj (fun x => by
  simp only [jt, iH, aP, vj, rF]
  simp only [nT, Bool.not_and, Bool.cond_eq_ite, Bool.or_eq_true, Bool.not_eq_true', decide_eq_false_iff_not]
  split
  ·congr 1; symm; rw [Bool.eq_iff_iff]; simp; omega
  ·split
   ·congr 1; symm; rw [Bool.eq_iff_iff]; simp; omega
   ·congr 1; rw [Bool.eq_iff_iff]; simp; omega)]
 simp only [aP]
 unfold kC
 cases t.Links.any vj
 case true => rfl
 simp only [cond_false]
 have hu : ∀ id, gW id t = some (!hasB t id) := fun id => by
  unfold gW
  rw [apZ t.aK id _ (fun r => dY r.ID id) (by omega) (fun r => acT r id)]
  simp only [aP]
  rw [← adU hB]; rfl
 rw [cfL t.Links _ (fun l => !hasB t l.A || !hasB t l.B) (fun x => by
  simp only [lN, hu, aP]
  cases hasB t x.A <;> rfl)]
 simp only [aP]
 unfold kD
 cases t.Links.any _
 case true => rfl
 simp only [cond_false]
 rw [cfL t.Links lP (fun l => decide (l.B ≤ l.A)) (fun x => rfl)]
 simp only [aP]
 unfold kE
 cases t.Links.any _
 case true => rfl
 simp only [cond_false]
 refine (xT ltL (some 25) ?_ ?_ _).trans ?_
 ·intros; rfl
 ·intro j x y r q s Z h hj
  simp only [jn, mb h hj (by omega), aP, y3, nT]
  rw [if_pos (by omega)]
  cases hlt : ltL y x
  ·have : ¬ cmpL y x < 0 := by rw [yC, hlt]; simp
   rw [if_pos (by omega)]; rfl
  ·have := yC.2 hlt
   rw [if_neg (by omega)]; rfl
 unfold kF
 cases fA ltL t.Links <;> rfl
end Go.Proofs.YtpmifmdidfgpdaaGreat

/- Plain: what the ap0 amO give. No condition. -/
namespace Go.Proofs.YtpmifmdidfgpdaaGreat
set_option linter.all false
open Go
def cE (t : aQ) : Prop := 0 ≤ t.At ∧ t.At ≤ t.L.length ∧ t.L.length ≤ 600
theorem ap1 (n : Int) : w64 n ≤ 9223372036854775807 ∧ -9223372036854775808 ≤ w64 n := by
 unfold w64
 rw [IntKind.wrap_i64]; omega
theorem afz {x n : Int} (hn : n ≤ 9223372036854775807) : Ok (rW x n) (fun r => 0 ≤ r ∧ (1 ≤ n → r < n) ∧ (n < 1 → r = 0)) := by
 unfold rW
 refine Ok.cs (fun h => Ok.s ?_) fun h => ?_
 ·simp at h; omega
 have h : 1 ≤ n := by simpa using h
 have h1 : Int.tmod x n < n := Int.tmod_lt_of_pos _ (by omega)
 have h2 : -n < Int.tmod x n := Int.lt_tmod_of_pos _ (by omega)
 refine Ok.chk (by simp; omega) ?_
 refine Ok.jn (fun r => 0 ≤ r ∧ r < n) (fun s hs => Ok.s ⟨hs.1, fun _ => hs.2, by omega⟩) fun J hJ => ?_
 refine Ok.cs (fun hc => hJ _ ?_) fun hc => hJ _ ?_
 ·simp at hc; rw [cr (by omega) (by omega)]; omega
 ·simp at hc; omega
theorem ap2 {t : aQ} (h : cE t) : Ok (nK t) (fun p => cE p.2) := by
 obtain ⟨h0, h1, h2⟩ := h
 unfold nK
 refine Ok.cs (fun _ => Ok.s ⟨h0, h1, h2⟩) fun hc => ?_
 simp at hc
 have e : w64 (t.At + 1) = t.At + 1 := cr (by omega) (by omega)
 rw [e, cr (by omega) (by omega)]
 refine Ok.bnd (pJ (by omega) (by omega)) fun a _ => Ok.s ⟨?_, ?_, h2⟩ <;> show _ <;> simp <;> omega
theorem fS {t : aQ} {n : Int} (h : cE t) (hn : n ≤ 9223372036854775807) : Ok (bV t n) (fun p => (0 ≤ p.1 ∧ (1 ≤ n → p.1 < n) ∧ (n < 1 → p.1 = 0)) ∧ cE p.2) := by
 unfold bV
 exact Ok.bnd (ap2 h) fun p hp => Ok.bnd (afz hn) fun r hr => Ok.s ⟨hr, hp⟩
theorem nF {t : aQ} {low high : Int} (h : cE t) : Ok (dL t low high) (fun p => (-2305843009213693952 ≤ low → low ≤ high → high < 2305843009213693952 → low ≤ p.1 ∧ p.1 ≤ high) ∧ cE p.2) := by
 unfold dL
 refine Ok.bnd (fS h (ap1 _).1) fun p hp => Ok.s ⟨fun h1 h2 h3 => ?_, hp.2⟩
 obtain ⟨⟨q1, q2, _⟩, _⟩ := hp
 rw [cr (n := high - low) (by omega) (by omega), cr (n := high - low + 1) (by omega) (by omega)] at q2
 show low ≤ w64 (low + p.1) ∧ w64 (low + p.1) ≤ high
 rw [cr (by omega) (by omega)]; omega
theorem kI {t : aQ} {l : List Int} (h : cE t) (h0 : 1 ≤ l.length) (h1 : l.length ≤ 1000000) : Ok (cS t l) (fun p => p.1 ∈ l ∧ cE p.2) := by
 unfold cS
 refine Ok.bnd (fS h (by omega)) fun p hp => ?_
 exact Ok.bnd (pJ hp.1.1 (hp.1.2.1 (by omega))) fun a ha => Ok.s ⟨ha.1, hp.2⟩
theorem vP {t : aQ} {n : Int} (h : cE t) (hn : n ≤ 9223372036854775807) : Ok (fk t n) (fun p => cE p.2) := by
 unfold fk
 exact Ok.bnd (fS h hn) fun p hp => Ok.s hp.2
theorem yD {t : aQ} (h : cE t) : Ok (eO t) (fun p => cE p.2) := by
 unfold eO
 exact Ok.bnd (kI h (by decide) (by decide)) fun p hp => Ok.s hp.2
theorem ap3 (l : List Int) : Ok (um l) cE := by
 unfold um
 refine Ok.jn (fun m : List Int => m.length ≤ 600) (fun s hs => Ok.s ⟨by simp, by simp, hs⟩) fun J hJ => ?_
 refine Ok.cs (fun hc => ?_) fun hc => hJ _ ?_
 ·simp at hc
  exact Ok.bnd (aax ⟨by omega, by omega, by omega⟩) fun m hm => hJ _ (by omega)
 ·simp at hc; omega
end Go.Proofs.YtpmifmdidfgpdaaGreat

/- Plain: valid wG, what is left yy a failure, and what is looked up. No condition. -/
namespace Go.Proofs.YtpmifmdidfgpdaaGreat
set_option linter.all false
open Go
/-! ## lists -/
theorem abe (a : aX) : sF a a = true := by simp [sF]
theorem acW (a : aT) : vu a a = true := by simp [vu]
/-- a loop bB keeps some -/
theorem xV {α γ β : Type} {B : Int → α → (List γ → Option β) → List γ → Option β} {K : List γ → Option β} (p : α → Bool) (f : α → γ) :
  ∀ (l : List α) (j : Nat) (s : List γ), (∀ (j : Nat) x Z s, x ∈ l → s.length < 1000000 → B j x Z s = bif p x then Z (s ++ [f x]) else Z s) → l.length + s.length ≤ 1000000 → bO l j B K s = K (s ++ (l.filter p).map f)
 | [], j, s, _, _ => by simp [bO]
 | x :: r, j, s, hB, h => by
  simp only [List.length_cons] at h
  simp only [bO]
  rw [hB j x _ s (by simp) (by omega)]
  have hB' : ∀ (j : Nat) y Z s, y ∈ r → s.length < 1000000 → B j y Z s = bif p y then Z (s ++ [f y]) else Z s := fun j y Z s hy => hB j y Z s (by simp [hy])
  cases hp : p x
  ·rw [cond_false, xV p f r (j + 1) s hB' (by omega), List.filter_cons_of_neg (by simp [hp])]
  ·rw [cond_true, xV p f r (j + 1) (s ++ [f x]) hB' (by simp; omega), List.filter_cons_of_pos hp]
   simp
theorem ap4 {α : Type} {s : List α} {x : α} (h : s.length < 1000000) : cI s [x] = some (s ++ [x]) := dJ (by simp; omega)
/-- ahS ascending lists with the same members are the same -/
theorem afA {a b : List Int} (ha : a.Pairwise (· < ·)) (hb : b.Pairwise (· < ·)) (h : ∀ x, x ∈ a ↔ x ∈ b) : a = b := by
 induction a generalizing b with
 | nil =>
  cases b with
  | nil => rfl
  | cons y b => exact absurd ((h y).2 (by simp)) (by simp)
 | cons x a ih =>
  cases b with
  | nil => exact absurd ((h x).1 (by simp)) (by simp)
  | cons y b =>
   rw [List.pairwise_cons] at ha hb
   have hxy : x = y := by
    have h1 := (h x).1 (by simp)
    have h2 := (h y).2 (by simp)
    rw [List.mem_cons] at h1 h2
    rcases h1 with h1 | h1
    ·exact h1
    ·rcases h2 with h2 | h2
     ·exact h2.symm
     ·have := hb.1 _ h1; have := ha.1 _ h2; omega
   subst hxy
   congr 1
   refine ih ha.2 hb.2 fun z => ?_
   have := h z
   simp only [List.mem_cons] at this
   constructor
   ·intro hz
    rcases this.1 (.inr hz) with q | q
    ·subst q; have := ha.1 _ hz; omega
    ·exact q
   ·intro hz
    rcases this.2 (.inr hz) with q | q
    ·subst q; have := hb.1 _ hz; omega
    ·exact q
theorem aio {l : List Int} (h : l.Nodup) : (iM l).Pairwise (· < ·) := by
 have h1 := ue l
 have h2 : (iM l).Nodup := (qL l).nodup_iff.2 h
 have := h1.and h2
 exact this.imp (fun ⟨a, b⟩ => by omega)
theorem afB {l : List Int} {x : Int} : x ∈ iM l ↔ x ∈ l := (qL l).mem_iff
/-! ## valid wG -/
structure Vt (t : aH) : Prop where
 nr : t.aK.length ≤ 24
 nl : t.Links.length ≤ 60
 idr : ∀ r ∈ t.aK, 1 ≤ r.ID ∧ r.ID ≤ 99
 asc : t.aK.Pairwise (fun a b => a.ID < b.ID)
 okl : ∀ l ∈ t.Links, vj l = false
 ends : ∀ l ∈ t.Links, hasB t l.A = true ∧ hasB t l.B = true
 lt : ∀ l ∈ t.Links, l.A < l.B
 acX : t.Links.Pairwise (fun a b => ltL a b = true)
theorem uW (a b c : aT) (h1 : ltL a b = true) (h2 : ltL b c = true) : ltL a c = true := by
 simp [ltL] at *; omega
theorem any_false {α : Type} {l : List α} {p : α → Bool} : l.any p = false ↔ ∀ x ∈ l, p x = false := by
 rw [List.any_eq_false]; simp
theorem nU {t : aH} : mT t = 0 ↔ Vt t := by
 unfold mT
 constructor
 ·intro h
  by_cases h1 : (decide (24 < (t.aK.length : Int)) || decide (60 < (t.Links.length : Int))) = true
  ·rw [h1] at h; cases h
  simp only [Bool.not_eq_true] at h1
  rw [h1, cond_false] at h
  cases h2 : kA t <;> rw [h2] at h <;> first | cases h; done | skip
  cases h3 : kB t <;> rw [h3] at h <;> first | cases h; done | skip
  cases h4 : kC t <;> rw [h4] at h <;> first | cases h; done | skip
  cases h5 : kD t <;> rw [h5] at h <;> first | cases h; done | skip
  cases h6 : kE t <;> rw [h6] at h <;> first | cases h; done | skip
  cases h7 : kF t <;> rw [h7] at h <;> first | cases h; done | skip
  simp only [Bool.or_eq_false_iff, decide_eq_false_iff_not] at h1
  refine ⟨by omega, by omega, fun r hr => ?_, afy h3, any_false.1 h4, fun l hl => ?_, fun l hl => ?_, oL uW h7⟩
  ·have := any_false.1 h2 r hr; simp [xR] at this; omega
  ·have := any_false.1 h5 l hl; simpa using this
  ·have := any_false.1 h6 l hl; simpa using this
 ·intro h
  have h1 : (decide (24 < (t.aK.length : Int)) || decide (60 < (t.Links.length : Int))) = false := by
   have := h.nr; have := h.nl; simp; omega
  have h2 : kA t = false := any_false.2 fun r hr => by have := h.idr r hr; simp [xR]; omega
  have h3 : kB t = true := mU (h.asc.imp fun h => by simpa using h)
  have h4 : kC t = false := any_false.2 h.okl
  have h5 : kD t = false := any_false.2 fun l hl => by have := h.ends l hl; simp [this]
  have h6 : kE t = false := any_false.2 fun l hl => by have := h.lt l hl; simp; omega
  have h7 : kF t = true := mU h.acX
  rw [h1, h2, h3, h4, h5, h6, h7]; rfl
theorem uX (t : aH) : gf t = some (decide (mT t = 0)) := by
 unfold gf; rw [xU]; rfl
theorem wH {t : aH} {r : Int} : hasB t r = true ↔ ∃ x ∈ t.aK, x.ID = r := by simp [hasB]
/-! ## yy -/
theorem afC (t : aH) : oC t t = some true := by
 unfold oC
 simp only [decide_true, Bool.not_true, Bool.or_false, cond_false]
 refine zR (L := t.aK) (f := fun _ _ _ => some true) ?_ ?_ t.aK [] () rfl
 ·intro s
  refine zR (L := t.Links) (f := fun _ _ _ => some true) ?_ ?_ t.Links [] () rfl
  ·intros; rfl
  ·intro p x r s Z h hZ
   simp only [← h, iS, aP, acW, Bool.not_true, cond_false, hZ]
 ·intro p x r s Z h hZ
  simp only [← h, iS, aP, abe, Bool.not_true, cond_false, hZ]
/-! ## has, capable, cost -/
theorem amP (t : aH) (r : Int) : pE t r = some (decide (mT t = 0) && hasB t r) := by
 unfold pE
 simp only [sQ, adS, aP]
 cases decide (mT t = 0) <;> rfl
def wI (t : aH) (r : Int) : aX × Bool := if bsT (fun x : aX => dY x.ID r) t.aK then (el t.aK (bsR (fun x : aX => dY x.ID r) t.aK), true) else (aX.mk 0 false, false)
theorem acY (t : aH) (r : Int) (hl : t.aK.length ≤ 1000000) : jF t r = some (wI t r) := by
 unfold jF wI
 rw [apZ t.aK r _ (fun x => dY x.ID r) hl (fun x => acT x r)]
 simp only [aP]
 cases h : bsT (fun x : aX => dY x.ID r) t.aK
 ·rfl
 ·have h2 : bsR (fun x : aX => dY x.ID r) t.aK < t.aK.length := by
   simp only [bsT, Bool.and_eq_true, decide_eq_true_eq] at h; exact h.1
  simp only [Bool.not_true, cond_false, sR h2, aP, if_true]
theorem abf {t : aH} (h : Vt t) (r : Int) : bsT (fun x : aX => dY x.ID r) t.aK = hasB t r := by
 have := adU (t := t) (mU (h.asc.imp fun h => by simpa using h)) r
 simpa [ain] using this
theorem amQ (t : aH) (r : Int) (hl : t.aK.length ≤ 1000000) : gX t r = some (decide (mT t = 0) && hasB t r) := by
 unfold gX
 simp only [acY t r hl, uX, aP]
 by_cases h : mT t = 0
 ·simp only [h, decide_true, cond_true, Bool.true_and, wI, abf (nU.1 h)]
  cases hasB t r <;> rfl
 ·simp [h]
theorem find_eq {t : aH} (h : Vt t) {x : aX} (hx : x ∈ t.aK) : wI t x.ID = (x, true) := by
 unfold wI
 have h1 : hasB t x.ID = true := wH.2 ⟨x, hx, rfl⟩
 have h2 := abf h x.ID
 rw [h1] at h2
 rw [if_pos h2]
 simp only [bsT, Bool.and_eq_true, decide_eq_true_eq] at h2
 obtain ⟨q1, q2⟩ := h2
 rw [oU] at q2
 have hm := acU q1
 have hu : ∀ a ∈ t.aK, ∀ b ∈ t.aK, a.ID = b.ID → a = b := by
  intro a ha b hb hab
  obtain ⟨i, hi, rfl⟩ := List.getElem_of_mem ha
  obtain ⟨j, hj, rfl⟩ := List.getElem_of_mem hb
  have := List.pairwise_iff_getElem.1 h.asc
  rcases Nat.lt_trichotomy i j with q | q | q
  ·have := this i j hi hj q; omega
  ·subst q; rfl
  ·have := this j i hj hi q; omega
 rw [hu _ hm _ hx q2]
/-- the first bB does -/
theorem sS {α σ β : Type} {B : Int → α → (σ → Option β) → σ → Option β} {K : σ → Option β} (p : α → Bool) (g : α → Option β) (hB : ∀ j x Z s, B j x Z s = bif p x then g x else Z s) (l : List α) (j : Nat) (s : σ) :
  bO l j B K s = match l.find? p with | some x => g x | none => K s :=
 yB (f := fun l s => match l.find? p with | some x => g x | none => K s) (fun s => rfl) (fun j x r s Z hZ => by
  rw [hB, hZ, List.find?_cons]; cases p x <;> rfl) l j s
theorem acZ {t : aH} (h : Vt t) {a b : aT} (ha : a ∈ t.Links) (hb : b ∈ t.Links) (hA : a.A = b.A) (hB : a.B = b.B) : a = b := by
 obtain ⟨i, hi, rfl⟩ := List.getElem_of_mem ha
 obtain ⟨j, hj, rfl⟩ := List.getElem_of_mem hb
 have := List.pairwise_iff_getElem.1 h.acX
 rcases Nat.lt_trichotomy i j with q | q | q
 ·have := this i j hi hj q; simp [ltL] at this; omega
 ·subst q; rfl
 ·have := this j i hj hi q; simp [ltL] at this; omega
theorem amR {t : aH} (h : Vt t) {r : Int} (hh : hasB t r = false) : wI t r = (aX.mk 0 false, false) := by
 unfold wI
 rw [abf h, hh]; rfl
theorem aeR (t : aH) (r : Int) (hl : t.aK.length ≤ 1000000) : ∃ b, jv t r = some b ∧ iz t r = some b := by
 unfold jv iz
 simp only [acY t r hl, uX, sQ, aP]
 by_cases h : mT t = 0
 ·have hv := nU.1 h
  simp only [h, decide_true, cond_true, Bool.not_true, cond_false]
  refine ⟨_, rfl, ?_⟩
  refine (sS (fun x : aX => decide (x.ID = r)) (fun x => some x.aW) (fun _ _ _ _ => rfl) _ _ _).trans ?_
  cases hf : t.aK.find? (fun x => decide (x.ID = r)) with
  | none =>
   have : hasB t r = false := any_false.2 fun x hx => by simpa using List.find?_eq_none.1 hf x hx
   rw [amR hv this]
  | some x =>
   have hm := List.mem_of_find?_eq_some hf
   have hp := List.find?_some hf
   have hp : x.ID = r := by simpa using hp
   subst hp
   rw [find_eq hv hm]
 ·simp only [h, decide_false, cond_false, Bool.not_false, cond_true]
  exact ⟨_, rfl, rfl⟩
def eV (l : aT) (a b : Int) : Bool := (decide (l.A = a) && decide (l.B = b)) || (decide (l.B = a) && decide (l.A = b))
def lE (a b : Int) (l : aT) : Int × Bool := (bif decide (l.A = a) && decide (l.B = b) then l.jh else l.iN, true)
def pK (t : aH) (a b : Int) : Int × Bool := match t.Links.find? (fun l => eV l a b) with | some l => lE a b l | none => (0, false)
def rG (t : aH) (a b : Int) : Bool := t.Links.any fun l => eV l a b
theorem xW (t : aH) (a b : Int) : jO t a b = some (pK t a b) := by
 unfold jO pK
 refine (sS (fun l : aT => eV l a b) (fun l => some (lE a b l)) (fun j x Z s => ?_) _ _ _).trans ?_
 ·unfold eV lE
  cases decide (x.A = a) && decide (x.B = b) <;> cases decide (x.B = a) && decide (x.A = b) <;> rfl
 ·cases t.Links.find? _ <;> rfl
theorem afD (t : aH) (a b : Int) : (pK t a b).2 = rG t a b := by
 unfold pK rG
 cases hf : t.Links.find? (fun l => eV l a b) with
 | none => symm; exact any_false.2 fun x hx => by simpa using List.find?_eq_none.1 hf x hx
 | some x =>
  symm
  exact List.any_eq_true.2 ⟨x, List.mem_of_find?_eq_some hf, by simpa using List.find?_some hf⟩
theorem ac0 {t : aH} (h : Vt t) {a b : Int} {l : aT} (hm : l ∈ t.Links) (he : eV l a b = true) : pK t a b = lE a b l := by
 unfold pK
 cases hf : t.Links.find? (fun l => eV l a b) with
 | none => exact absurd he (List.find?_eq_none.1 hf l hm)
 | some x =>
  have hx := List.mem_of_find?_eq_some hf
  have hp := List.find?_some hf
  have h1 := h.lt _ hm
  have h2 := h.lt _ hx
  simp [eV] at he hp
  rw [acZ h hx hm (by omega) (by omega)]
theorem amS {t : aH} (h : Vt t) (v : aT) : ∀ a b : Nat, a ≤ b → b < t.Links.length → cmpL (el t.Links a) v ≤ cmpL (el t.Links b) v := by
 refine qj (f := fun l : aT => cmpL l v) (h.acX.imp fun {a b} hab => ?_)
 have c3 : ∀ x y : Int, dY x y = -1 ∨ dY x y = 0 ∨ dY x y = 1 := fun x y => by
  unfold dY; split
  ·exact .inl rfl
  ·split
   ·exact .inr (.inr rfl)
   ·exact .inr (.inl rfl)
 have : ∀ x y : aT, cmpL x y = -1 ∨ cmpL x y = 0 ∨ cmpL x y = 1 := fun x y => by
  have q1 := c3 x.A y.A
  have q2 := c3 x.B y.B
  simp only [cmpL, orI]
  generalize dY x.A y.A = p at *
  generalize dY x.B y.B = q at *
  by_cases h1 : p = 0
  ·by_cases h2 : q = 0 <;> simp [h1, h2]; omega
  ·simp [h1]; omega
 have h1 := @yC a v
 have h2 := @yC b v
 have h3 := @cmpL_eq a v
 have h4 := @cmpL_eq b v
 have q1 := this a v
 have q2 := this b v
 simp [ltL] at hab h1 h2
 omega
theorem aip (t : aH) (a b : Int) (hl : t.Links.length ≤ 1000000) : jG t a b = some (if mT t = 0 then pK t a b else (0, false)) := by
 unfold jG
 simp only [uX, aP]
 by_cases h : mT t = 0
 ·have hv := nU.1 h
  simp only [h, decide_true, Bool.not_true, cond_false, if_true]
  generalize hv2 : aT.mk (if b < a then b else a) (if b > a then b else a) 0 0 0 = v
  rw [bsLk t.Links v _ (fun x => cmpL x v) hl (fun x => y3 x v)]
  simp only [aP]
  have hA : v.A = if b < a then b else a := by rw [← hv2]
  have hB : v.B = if b > a then b else a := by rw [← hv2]
  cases hT : bsT (fun x : aT => cmpL x v) t.Links
  ·simp only [Bool.not_false, cond_true]
   congr 1
   unfold pK
   cases hf : t.Links.find? (fun l => eV l a b) with
   | none => rfl
   | some x =>
    exfalso
    have hx := List.mem_of_find?_eq_some hf
    have hp := List.find?_some hf
    have h2 := h
    have := (abd (f := fun x : aT => cmpL x v) (amS hv v)).2 ⟨x, hx, by
     rw [cmpL_eq, hA, hB]
     have := hv.lt _ hx
     simp [eV] at hp
     split <;> split <;> omega⟩
    rw [hT] at this; cases this
  ·simp only [bsT, Bool.and_eq_true, decide_eq_true_eq] at hT
   obtain ⟨q1, q2⟩ := hT
   rw [cmpL_eq, hA, hB] at q2
   have hm := acU q1
   simp only [Bool.not_true, cond_false, sR q1, aP]
   have hlt := hv.lt _ hm
   have e : eV (el t.Links (bsR (fun x : aT => cmpL x v) t.Links)) a b = true := by
    simp [eV]; by_cases q3 : b < a <;> by_cases q4 : b > a <;> simp only [q3, q4, if_true, if_false] at q2 <;> omega
   rw [ac0 hv hm e]
   unfold lE
   by_cases hab : a < b
   ·have : decide (a < b) = true := by simpa using hab
    rw [this, cond_true]
    have : (decide ((el t.Links (bsR (fun x : aT => cmpL x v) t.Links)).A = a) && decide ((el t.Links (bsR (fun x : aT => cmpL x v) t.Links)).B = b)) = true := by
     simp; by_cases q3 : b < a <;> by_cases q4 : b > a <;> simp only [q3, q4, if_true, if_false] at q2 <;> omega
    rw [this]; rfl
   ·have : decide (a < b) = false := by simpa using hab
    rw [this, cond_false]
    have : (decide ((el t.Links (bsR (fun x : aT => cmpL x v) t.Links)).A = a) && decide ((el t.Links (bsR (fun x : aT => cmpL x v) t.Links)).B = b)) = false := by
     simp; by_cases q3 : b < a <;> by_cases q4 : b > a <;> simp only [q3, q4, if_true, if_false] at q2 <;> omega
    rw [this]; rfl
 ·simp [h]
/-! ## aeQ -/
def ids (t : aH) : List Int := t.aK.map (·.ID)
theorem ap5 {t : aH} (h : Vt t) : (ids t).Pairwise (· < ·) := List.pairwise_map.2 h.asc
theorem abg {t : aH} {r : Int} : r ∈ ids t ↔ hasB t r = true := by rw [wH]; simp [ids]
theorem oV {t : aH} {a b : Int} : rG t a b = true ↔ ∃ l ∈ t.Links, (l.A = a ∧ l.B = b) ∨ (l.B = a ∧ l.A = b) := by
 simp [rG, eV]
theorem aiq {t : aH} {a b : Int} (h : rG t a b = true) : rG t b a = true := by
 rw [oV] at h ⊢
 obtain ⟨l, hl, h⟩ := h
 exact ⟨l, hl, by omega⟩
theorem afE {t : aH} (hv : Vt t) {a b : Int} (h : rG t a b = true) : a ≠ b := by
 rw [oV] at h
 obtain ⟨l, hl, h⟩ := h
 have := hv.lt l hl
 omega
theorem abh {t : aH} (hv : Vt t) {a b : Int} (h : rG t a b = true) : b ∈ ids t := by
 rw [oV] at h
 obtain ⟨l, hl, h⟩ := h
 have := hv.ends l hl
 rcases h with ⟨h1, h2⟩ | ⟨h1, h2⟩ <;> rw [abg, ← h2]
 ·exact this.2
 ·exact this.1
def jl (t : aH) (r : Int) : List Int := (ids t).filter fun x => rG t r x
theorem wJ {t : aH} (hv : Vt t) (r : Int) : (jl t r).Pairwise (· < ·) := (ap5 hv).sublist List.filter_sublist
theorem oM {t : aH} (hv : Vt t) {r x : Int} : x ∈ jl t r ↔ rG t r x = true := by
 unfold jl; rw [List.mem_filter]
 exact ⟨fun h => h.2, fun h => ⟨abh hv h, h⟩⟩
theorem air {t : aH} (hv : Vt t) (r : Int) : oB t r = some (jl t r) := by
 unfold oB
 have := hv.nr
 refine (xV (fun x : aX => rG t r x.ID) (·.ID) _ _ _ ?_ (by simp; omega)).trans ?_
 ·intro j x Z s _ hs
  simp only [jn, xW, afD, aP, ap4 hs]
 ·simp only [List.nil_append, jl, ids]
  rw [List.filter_map]; rfl
/-- the other end of each link of a aL -/
def pL (r : Int) (l : aT) : Option Int := if r = l.A then some l.B else if r = l.B then some l.A else none
theorem xX {α γ β : Type} {B : Int → α → (List γ → Option β) → List γ → Option β} {K : List γ → Option β} (f : α → Option γ) :
  ∀ (l : List α) (j : Nat) (s : List γ), (∀ (j : Nat) x Z s, x ∈ l → s.length < 1000000 → B j x Z s = match f x with | some y => Z (s ++ [y]) | none => Z s) → l.length + s.length ≤ 1000000 → bO l j B K s = K (s ++ l.filterMap f)
 | [], j, s, _, _ => by simp [bO]
 | x :: r, j, s, hB, h => by
  simp only [List.length_cons] at h
  simp only [bO]
  rw [hB j x _ s (by simp) (by omega)]
  have hB' : ∀ (j : Nat) y Z s, y ∈ r → s.length < 1000000 → B j y Z s = match f y with | some y => Z (s ++ [y]) | none => Z s := fun j y Z s hy => hB j y Z s (by simp [hy])
  cases hp : f x with
  | none => simp only; rw [xX f r (j + 1) s hB' (by omega), List.filterMap_cons_none hp]
  | some y => simp only; rw [xX f r (j + 1) (s ++ [y]) hB' (by simp; omega), List.filterMap_cons_some hp]; simp
theorem adt {t : aH} (hv : Vt t) (r : Int) : (t.Links.filterMap (pL r)).Nodup := by
 have key : ∀ l : List aT, (∀ x ∈ l, x.A < x.B) → l.Pairwise (fun a b => ltL a b = true) → (l.filterMap (pL r)).Nodup := by
  intro l
  induction l with
  | nil => intros; simp
  | cons x l ih =>
   intro h1 h2
   rw [List.pairwise_cons] at h2
   have ih := ih (fun y hy => h1 y (by simp [hy])) h2.2
   cases hx : pL r x with
   | none => rw [List.filterMap_cons_none hx]; exact ih
   | some y =>
    rw [List.filterMap_cons_some hx, List.nodup_cons]
    refine ⟨fun hm => ?_, ih⟩
    obtain ⟨z, hz, hzy⟩ := List.mem_filterMap.1 hm
    have h3 := h2.1 z hz
    have h4 := h1 x (by simp)
    have h5 := h1 z (by simp [hz])
    unfold pL at hx hzy
    simp [ltL] at h3
    split at hx <;> split at hzy <;> (try split at hx) <;> (try split at hzy) <;> simp at hx hzy <;> omega
 exact key _ hv.lt hv.acX
theorem afF {t : aH} {r x : Int} (hv : Vt t) : x ∈ t.Links.filterMap (pL r) ↔ rG t r x = true := by
 rw [List.mem_filterMap, oV]
 constructor
 ·rintro ⟨l, hl, h⟩
  unfold pL at h
  refine ⟨l, hl, ?_⟩
  split at h
  ·simp at h; omega
  ·split at h
   ·simp at h; omega
   ·cases h
 ·rintro ⟨l, hl, h⟩
  refine ⟨l, hl, ?_⟩
  have := hv.lt l hl
  unfold pL
  rcases h with h | h
  ·rw [if_pos (by omega), h.2]
  ·rw [if_neg (by omega), if_pos (by omega), h.2]
theorem ais {t : aH} (hv : Vt t) (r : Int) : fR t r = some (jl t r) := by
 unfold fR
 have := hv.nl
 refine (xX (pL r) _ _ _ ?_ (by simp; omega)).trans ?_
 ·intro j x Z s _ hs
  simp only [jn, ap4 hs, aP, pL]
  by_cases h1 : r = x.A
  ·simp [h1]
  ·by_cases h2 : r = x.B <;> simp [h1, h2]
   simp [← h2, h1]
 ·have hlen : (t.Links.filterMap (pL r)).length ≤ 60 := Nat.le_trans (List.length_filterMap_le _ _) (by omega)
  simp only [List.nil_append]
  rw [nE (by simp; omega)]
  congr 1
  refine afA (aio (adt hv r)) (wJ hv r) fun x => ?_
  rw [afB, afF hv, oM hv]
theorem abi (t : aH) (r : Int) : gY t r = some (if mT t = 0 then jl t r else []) := by
 unfold gY
 simp only [uX, aP]
 by_cases h : mT t = 0
 ·simp [h, ais (nU.1 h), aP]
 ·simp [h]
end Go.Proofs.YtpmifmdidfgpdaaGreat

/- Plain: who is connected with whom. No condition. -/
namespace Go.Proofs.YtpmifmdidfgpdaaGreat
set_option linter.all false
open Go
/-- a loop, with what was apX -/
theorem Ok.qk {α σ β : Type} {B : Int → α → (σ → Option β) → σ → Option β} {K : σ → Option β} {Q : β → Prop} (I : List α → σ → Prop) {L : List α}
  (hc : ∀ (p : List α) x r s Z, L = p ++ x :: r → I p s → (∀ s', I (p ++ [x]) s' → Ok (Z s') Q) → Ok (B (p.length : Int) x Z s) Q) (s : σ) (h : I [] s) (hn : ∀ s, I L s → Ok (K s) Q) : Ok (Go.Proofs.YtpmifmdidfgpdaaGreat.bO L 0 B K s) Q := by
 have key : ∀ (l p : List α) (s : σ), L = p ++ l → I p s → Ok (Go.Proofs.YtpmifmdidfgpdaaGreat.bO l p.length B K s) Q := by
  intro l
  induction l with
  | nil => intro p s hj h; exact hn s (by rw [hj, List.append_nil]; exact h)
  | cons x r ih =>
   intro p s hj h
   refine hc p x r s _ hj h fun s' h' => ?_
   have := ih (p ++ [x]) s' (by simp [hj]) h'
   rwa [List.length_append] at this
 exact key L [] s rfl h
theorem afG {a b : List Int} (h : a.Nodup) (hs : ∀ x ∈ a, x ∈ b) : a.length ≤ b.length := by
 induction a generalizing b with
 | nil => simp
 | cons x a ih =>
  rw [List.nodup_cons] at h
  have hx := hs x (by simp)
  have := ih (b := b.erase x) h.2 fun y hy => (List.mem_erase_of_ne (fun e => h.1 (by rw [← e]; exact hy))).2 (hs y (by simp [hy]))
  rw [List.length_erase_of_mem hx] at this
  have := List.length_pos_of_mem hx
  simp only [List.length_cons]; omega
inductive Cn (t : aH) (c : List Int) : Int → Int → Prop
 | refl {a : Int} (h : a ∉ c) : Cn t c a a
 | step {a b d : Int} (h : Cn t c a b) (ha : rG t b d = true) (hd : d ∉ c) : Cn t c a d
theorem Cn.trans {t : aH} {c : List Int} {a b d : Int} (h1 : Cn t c a b) (h2 : Cn t c b d) : Cn t c a d := by
 induction h2 with
 | refl _ => exact h1
 | step _ ha hd ih => exact .step ih ha hd
theorem Cn.left {t : aH} {c : List Int} {a b : Int} (h : Cn t c a b) : a ∉ c := by
 induction h with
 | refl h => exact h
 | step _ _ _ ih => exact ih
theorem Cn.right {t : aH} {c : List Int} {a b : Int} (h : Cn t c a b) : b ∉ c := by
 cases h with
 | refl h => exact h
 | step _ _ hd => exact hd
theorem Cn.symm {t : aH} {c : List Int} {a b : Int} (h : Cn t c a b) : Cn t c b a := by
 induction h with
 | refl h => exact .refl h
 | step h ha hd ih => exact (Cn.step (.refl hd) (aiq ha) h.right).trans ih
theorem Cn.ids {t : aH} (hv : Vt t) {c : List Int} {a b : Int} (h : Cn t c a b) (ha : a ∈ ids t) : b ∈ ids t := by
 cases h with
 | refl h => exact ha
 | step _ hd _ => exact abh hv hd
theorem amT {t : aH} (hv : Vt t) : (ids t).length ≤ 24 := by have := hv.nr; simpa [ids] using this
end Go.Proofs.YtpmifmdidfgpdaaGreat

/- Plain: components, amU and cuts. No condition. -/
namespace Go.Proofs.YtpmifmdidfgpdaaGreat
set_option linter.all false
open Go
/-! ## connected -/
/-! ## components -/
/-! ## amU -/
/-! ## cuts -/
end Go.Proofs.YtpmifmdidfgpdaaGreat
