/- Several texts in one. No condition but those that stand in each. -/
import Derived.Test.YtpmifmdidfgpdaaGreatBA
import Derived.Test.YtpmifmdidfgpdaaGreatDA
/- Plain facts on the words in which the program is written gq. No program in sight. No condition. -/
namespace Go.Proofs.YtpmifmdidfgpdaaGreat
set_option linter.all false
open Go
theorem aP {α β : Type} (a : α) (k : α → Option β) : bnd (some a) k = k a := rfl
theorem nj {β : Type} {c : Bool} {k : Option β} (h : c = true) : chk c k = k := by subst h; rfl
theorem nD {α : Type} {p : Prop} [Decidable p] {x y : α} : (bif decide p then x else y) = if p then x else y := by
 by_cases h : p <;> simp [h]
/-- a loop along a list comes to what 'f' aoe -/
theorem x3 {α σ β : Type} {B : Int → α → (σ → Option β) → σ → Option β} {K : σ → Option β} (f : List α → σ → Option β) (hn : ∀ s, K s = f [] s)
  (hc : ∀ (j : Int) x r s Z, (∀ s', Z s' = f r s') → B j x Z s = f (x :: r) s) : ∀ (l : List α) (j : Nat) (s : σ), bN l j B K s = f l s
 | [], _, s => hn s
 | x :: r, j, s => hc j x r s _ fun s' => x3 f hn hc r (j + 1) s'
/-- the same, with what was ae1 -/
theorem zq {α σ β : Type} {B : Int → α → (σ → Option β) → σ → Option β} {K : σ → Option β} {L : List α} (f : List α → List α → σ → Option β) (hn : ∀ s, K s = f L [] s)
  (hc : ∀ p x r s Z, p ++ x :: r = L → (∀ s', Z s' = f (p ++ [x]) r s') → B (p.length : Int) x Z s = f p (x :: r) s) : ∀ (l p : List α) (s : σ), p ++ l = L → bN l p.length B K s = f p l s
 | [], p, s, h => by rw [List.append_nil] at h; subst h; exact hn s
 | x :: r, p, s, h => hc p x r s _ h fun s' => by
   have := zq (B := B) (K := K) f hn hc r (p ++ [x]) s' (by simpa using h)
   rw [List.length_append] at this
   exact this
/-- what is so of a result -/
def Ok {β : Type} (o : Option β) (Q : β → Prop) : Prop := ∃ r, o = some r ∧ Q r
theorem Ok.s {β : Type} {Q : β → Prop} {r : β} (h : Q r) : Ok (some r) Q := ⟨r, rfl, h⟩
theorem Ok.bnd {α β : Type} {o : Option α} {k : α → Option β} {P : α → Prop} {Q : β → Prop} (h : Ok o P) (hk : ∀ a, P a → Ok (k a) Q) : Ok (bnd o k) Q := by
 obtain ⟨a, rfl, ha⟩ := h; exact hk a ha
theorem Ok.cs {β : Type} {c : Bool} {x y : Option β} {Q : β → Prop} (h1 : c = true → Ok x Q) (h2 : c = false → Ok y Q) : Ok (bif c then x else y) Q := by
 cases c
 ·exact h2 rfl
 ·exact h1 rfl
theorem Ok.chk {β : Type} {c : Bool} {k : Option β} {Q : β → Prop} (h : c = true) (hk : Ok k Q) : Ok (chk c k) Q := by subst h; exact hk
theorem Ok.jn {σ β : Type} {k : σ → Option β} {t : (σ → Option β) → Option β} {Q : β → Prop} (R : σ → Prop) (h1 : ∀ s, R s → Ok (k s) Q) (h2 : ∀ J, (∀ s, R s → Ok (J s) Q) → Ok (t J) Q) : Ok (jn k t) Q := h2 k h1
theorem Ok.mono {β : Type} {o : Option β} {Q Q' : β → Prop} (h : Ok o Q) (hq : ∀ r, Q r → Q' r) : Ok o Q' := by
 obtain ⟨r, h1, h2⟩ := h; exact ⟨r, h1, hq r h2⟩
theorem Ok.bN {α σ β : Type} {B : Int → α → (σ → Option β) → σ → Option β} {K : σ → Option β} {Q : β → Prop} (I : Nat → σ → Prop)
  (hc : ∀ (j : Nat) x s Z, I j s → (∀ s', I (j + 1) s' → Ok (Z s') Q) → Ok (B (j : Int) x Z s) Q) : ∀ (l : List α) (j : Nat) (s : σ), I j s → (∀ s, I (j + l.length) s → Ok (K s) Q) → Ok (bN l j B K s) Q
 | [], j, s, h, hn => hn s (by simpa using h)
 | x :: r, j, s, h, hn => hc j x s _ h fun s' h' => Ok.bN I hc r (j + 1) s' h' fun s hs => hn s (by rwa [List.length_cons, ← Nat.add_assoc, Nat.add_right_comm])
theorem Ok.gr {σ β : Type} {B : Int → (σ → Option β) → σ → Option β} {K : Int → σ → Option β} {Q : β → Prop} (I : Int → σ → Prop) (lo hi : Int)
  (hc : ∀ (i : Int) s Z, lo ≤ i → i < hi → I i s → (∀ s', I (i + 1) s' → Ok (Z s') Q) → Ok (B i Z s) Q) (hn : ∀ i s, lo ≤ i → (lo ≤ hi → i = hi) → I i s → Ok (K i s) Q) : ∀ (n : Nat) (i : Int) (s : σ), n = (hi - i).toNat → lo ≤ i → (lo ≤ hi → i ≤ hi) → I i s → Ok (gr n i B K s) Q
 | 0, i, s, hn0, h1, h2, h => hn i s h1 (fun hh => by have := h2 hh; omega) h
 | n + 1, i, s, hn0, h1, h2, h => hc i s _ h1 (by omega) h fun s' h' => Ok.gr I lo hi hc hn n (i + 1) s' (by omega) (by omega) (fun _ => by omega) h'
theorem Ok.iter {σ β : Type} {F : (σ → Option β) → σ → Option β} {Q : β → Prop} (I : σ → Prop) (μ : σ → Nat)
  (hc : ∀ s Z, I s → (∀ s', I s' → μ s' < μ s → Ok (Z s') Q) → Ok (F Z s) Q) : ∀ (n : Nat) (s : σ), I s → μ s < n → Ok (iter F n s) Q
 | 0, s, _, h => by omega
 | n + 1, s, h, hm => hc s _ h fun s' h' hm' => Ok.iter I μ hc n s' h' (by omega)
theorem Ok.whl {σ β : Type} {F : (σ → Option β) → σ → Option β} {Q : β → Prop} (I : σ → Prop) (μ : σ → Nat) {s : σ} (h : I s) (hm : μ s < 1099511627776)
  (hc : ∀ s Z, I s → (∀ s', I s' → μ s' < μ s → Ok (Z s') Q) → Ok (F Z s) Q) : Ok (whl F s) Q := Ok.iter I μ hc fuel s h hm
theorem Ok.get {β : Type} {o : Option β} {Q : β → Prop} (h : Ok o Q) : ∃ r, o = some r ∧ Q r := h
theorem Ok.eq {β : Type} {o : Option β} {r : β} (h : Ok o (fun x => x = r)) : o = some r := by obtain ⟨x, h1, rfl⟩ := h; exact h1
theorem iq {α : Type} (p : List α) (x : α) (r : List α) : elO (p ++ x :: r) (p.length : Int) = some x := by
 unfold elO; rw [if_pos (by omega)]; simp
theorem qN {α : Type} {l : List α} {i : Int} (h0 : 0 ≤ i) (h : i < l.length) : Ok (elO l i) (fun x => x ∈ l ∧ l[i.toNat]? = some x) := by
 unfold elO; rw [if_pos h0]
 have : i.toNat < l.length := by omega
 exact ⟨l[i.toNat], List.getElem?_eq_getElem this, List.getElem_mem this, List.getElem?_eq_getElem this⟩
theorem dP {α : Type} {l r : List α} (h : l.length + r.length ≤ 549755813888) : cM l r = some (l ++ r) := by unfold cM; rw [if_pos (by unfold cap; exact h)]
theorem gT {α : Type} {l r : List α} (h : l.length + r.length ≤ 549755813888) : Ok (cM l r) (fun m => m = l ++ r ∧ m.length = l.length + r.length) := ⟨_, dP h, rfl, by simp⟩
theorem ae2 {α : Type} {l : List α} {i : Int} {x : α} (h0 : 0 ≤ i) (h : i < l.length) : Ok (iL l i x) (fun m => m = l.set i.toNat x ∧ m.length = l.length) := by
 unfold iL; rw [if_pos ⟨h0, h⟩]; exact ⟨_, rfl, rfl, by simp⟩
theorem zX {α : Type} {l : List α} {a b : Int} (h : 0 ≤ a ∧ a ≤ b ∧ b ≤ l.length) : Ok (kJ l a b) (fun m => m = (l.take b.toNat).drop a.toNat ∧ (m.length : Int) = b - a) := by
 unfold kJ; rw [if_pos h]; exact ⟨_, rfl, rfl, by simp; omega⟩
/-- the first loop: does any do -/
theorem rH {α σ β : Type} {B : Int → α → (σ → Option β) → σ → Option β} {K : σ → Option β} (p : α → Bool) (a : Option β) (hB : ∀ j x Z s, B j x Z s = bif p x then a else Z s) (l : List α) (j : Nat) (s : σ) : bN l j B K s = bif l.any p then a else K s :=
 x3 (f := fun l s => bif l.any p then a else K s) (fun s => rfl) (fun j x r s Z hZ => by
  rw [hB, hZ, List.any_cons]; cases p x <;> rfl) l j s
end Go.Proofs.YtpmifmdidfgpdaaGreat

/- Plain: the two Checks of a zu aai to the same. No condition. -/
namespace Go.Proofs.YtpmifmdidfgpdaaGreat
set_option linter.all false
open Go
def qO (n : Int) : Bool := decide (1 ≤ n) && decide (n ≤ 1000)
def hasB (t : aD) (r : Int) : Bool := t.aI.any fun x => decide (x.ID = r)
def xh (r : aY) : Bool := decide (r.ID < 1) || decide (99 < r.ID)
def uS (l : aQ) : Bool := !qO l.ja || !qO l.iF || decide (l.bY < 0) || decide (1000 < l.bY)
def ltL (a b : aQ) : Bool := decide (a.A < b.A) || (decide (a.A = b.A) && decide (a.B < b.B))
def fk {α : Type} (p : α → α → Bool) : List α → Bool
 | a :: b :: r => p a b && fk p (b :: r)
 | _ => true
def kA (t : aD) : Bool := t.aI.any xh
def kB (t : aD) : Bool := fk (fun a b => decide (a.ID < b.ID)) t.aI
def kC (t : aD) : Bool := t.Links.any uS
def kD (t : aD) : Bool := t.Links.any fun l => !hasB t l.A || !hasB t l.B
def kE (t : aD) : Bool := t.Links.any fun l => decide (l.B ≤ l.A)
def kF (t : aD) : Bool := fk ltL t.Links
def mF (t : aD) : Int :=
 bif decide (24 < (t.aI.length : Int)) || decide (60 < (t.Links.length : Int)) then 3
 else bif kA t then 2 else bif kB t then (bif kC t then 2 else bif kD t then 4 else bif kE t then 8 else bif kF t then 0 else 25) else 25
/-- a loop bB looks at aek, behind the first -/
theorem zv {α σ β : Type} {B : Int → α → (σ → Option β) → σ → Option β} {K : σ → Option β} {L : List α} (p : α → α → Bool) (a : Option β)
  (hB : ∀ (j : Nat) x y r q s Z, L = q ++ y :: x :: r → j = q.length + 1 → B (j : Int) x Z s = bif p y x then Z s else a) : ∀ (r q : List α) (y : α) (s : σ), L = q ++ y :: r → bN r (q.length + 1) B K s = bif fk p (y :: r) then K s else a
 | [], q, y, s, h => rfl
 | x :: r, q, y, s, h => by
  simp only [bN]
  rw [hB (q.length + 1) x y r q s _ h rfl]
  have := zv (B := B) (K := K) p a hB r (q ++ [y]) x s (by simpa using h)
  simp only [List.length_append, List.length_cons, List.length_nil] at this
  rw [this]
  simp only [fk]
  cases p y x <;> rfl
theorem xk {α σ β : Type} {B : Int → α → (σ → Option β) → σ → Option β} {K : σ → Option β} {L : List α} (p : α → α → Bool) (a : Option β)
  (hB : ∀ (j : Nat) x y r q s Z, L = q ++ y :: x :: r → j = q.length + 1 → B (j : Int) x Z s = bif p y x then Z s else a) (s : σ) : bN (L.drop 1) 1 B K s = bif fk p L then K s else a := by
 cases L with
 | nil => rfl
 | cons y r => exact zv (B := B) (K := K) p a hB r [] y s rfl
theorem xm {α σ β : Type} {B : Int → α → (σ → Option β) → σ → Option β} {K : σ → Option β} {L : List α} (p : α → α → Bool) (a : Option β) (h0 : ∀ x Z s, B ((0 : Nat) : Int) x Z s = Z s)
  (hB : ∀ (j : Nat) x y r q s Z, L = q ++ y :: x :: r → j = q.length + 1 → B (j : Int) x Z s = bif p y x then Z s else a) (s : σ) : bN L 0 B K s = bif fk p L then K s else a := by
 cases L with
 | nil => rfl
 | cons y r =>
  simp only [bN]
  rw [h0]
  exact zv (B := B) (K := K) p a hB r [] y s rfl
/-- the place ahead -/
theorem lT {α : Type} {L : List α} {j : Nat} {y x : α} {r q : List α} (h : L = q ++ y :: x :: r) (hj : j = q.length + 1) (hL : (L.length : Int) ≤ 9223372036854775807) : elO L (w64 ((j : Int) - 1)) = some y := by
 have hl : q.length + 2 ≤ L.length := by rw [h]; simp
 rw [ct (by omega) (by omega), show (j : Int) - 1 = (q.length : Int) by omega, h, iq]
theorem ahU (n : Int) : n5 n = some (qO n) := rfl
theorem adm (t : aD) (r : Int) : lN t r = some (hasB t r) := by
 unfold lN
 refine (rH (fun x : aY => decide (x.ID = r)) (some true) ?_ _ _ _).trans ?_
 ·intros; rfl
 ·unfold hasB; cases t.aI.any _ <;> rfl
theorem sv (t : aD) : iw t = some (mF t) := by
 unfold iw mF
 by_cases hlen : (decide (24 < (t.aI.length : Int)) || decide (60 < (t.Links.length : Int))) = true
 ·rw [hlen]; rfl
 rw [Bool.not_eq_true] at hlen
 rw [hlen]
 simp only [cond_false]
 simp only [Bool.or_eq_false_iff, decide_eq_false_iff_not] at hlen
 refine (rH xh (some 2) ?_ _ _ _).trans ?_
 ·intros; rfl
 unfold kA
 cases t.aI.any xh
 case true => rfl
 simp only [cond_false]
 refine (xk (fun a b : aY => decide (a.ID < b.ID)) (some 25) ?_ _).trans ?_
 ·intro j x y r q s Z h hj
  simp only [lT h hj (by omega), aP, nD]
  split <;> split <;> first | rfl | omega
 unfold kB
 cases fk _ t.aI
 case false => rfl
 simp only [cond_true]
 refine (rH uS (some 2) ?_ _ _ _).trans ?_
 ·intro j x Z s
  simp only [jn, ahU, aP, uS]
  cases qO x.ja <;> cases qO x.iF <;> simp [nD] <;> (try split) <;> (try split) <;> simp_all <;> omega
 unfold kC
 cases t.Links.any uS
 case true => rfl
 simp only [cond_false]
 refine (rH (fun l => !hasB t l.A || !hasB t l.B) (some 4) ?_ _ _ _).trans ?_
 ·intro j x Z s
  simp only [jn, adm, aP]
  cases hasB t x.A <;> cases hasB t x.B <;> rfl
 unfold kD
 cases t.Links.any _
 case true => rfl
 simp only [cond_false]
 refine (rH (fun l => decide (l.B ≤ l.A)) (some 8) ?_ _ _ _).trans ?_
 ·intros; rfl
 unfold kE
 cases t.Links.any _
 case true => rfl
 simp only [cond_false]
 refine (xk ltL (some 25) ?_ _).trans ?_
 ·intro j x y r q s Z h hj
  have e : (decide (x.A < y.A) || (decide (y.A = x.A) && decide (x.B ≤ y.B))) = !ltL y x := by
   rw [Bool.eq_iff_iff]; simp [ltL]; omega
  simp only [lT h hj (by omega), aP]
  rw [e]
  cases ltL y x <;> rfl
 unfold kF
 cases fk ltL t.Links <;> rfl
/-! ## the wU -/
theorem vW {α σ : Type} {B : Int → α → (σ → Option Int) → σ → Option Int} {K : σ → Option Int} (p : α → Bool) (hB : ∀ j x Z s, B j x Z s = bif p x then some j else Z s) (hK : ∀ s, K s = some (-1)) : ∀ (l : List α) (j : Nat) (s : σ), ∃ r, bN l j B K s = some r ∧ decide (0 ≤ r) = l.any p
 | [], j, s => ⟨-1, hK s, rfl⟩
 | x :: r, j, s => by
  simp only [bN, hB, List.any_cons]
  cases p x
  ·simpa using vW p hB hK r (j + 1) s
  ·exact ⟨j, rfl, by simp⟩
theorem cfR (l : List aY) (f : aY → Option Bool) (p : aY → Bool) (hf : ∀ x, f x = some (p x)) : cU l f = some (l.any p) := by
 unfold cU dK
 obtain ⟨r, h1, h2⟩ := vW (B := fun (j1 : Int) (e1 : aY) (Z1 : Unit → Option Int) (sg : Unit) => match sg with | () => bnd (f e1) fun (af : Bool) => bif af then some (j1 : Int) else Z1 ()) (K := fun (sg : Unit) => match sg with | () => some (-1:Int)) p (fun j x Z s => by simp only [hf, aP]) (fun _ => rfl) l 0 ()
 simp only [h1, aP, h2]
theorem cfL (l : List aQ) (f : aQ → Option Bool) (p : aQ → Bool) (hf : ∀ x, f x = some (p x)) : cz l f = some (l.any p) := by
 unfold cz dZ
 obtain ⟨r, h1, h2⟩ := vW (B := fun (j1 : Int) (e1 : aQ) (Z1 : Unit → Option Int) (sg : Unit) => match sg with | () => bnd (f e1) fun (af : Bool) => bif af then some (j1 : Int) else Z1 ()) (K := fun (sg : Unit) => match sg with | () => some (-1:Int)) p (fun j x Z s => by simp only [hf, aP]) (fun _ => rfl) l 0 ()
 simp only [h1, aP, h2]
def dR (x y : Int) : Int := if x < y then -1 else if y < x then 1 else 0
theorem aaG (x y : Int) : dW x y = some (dR x y) := by
 unfold dW lq dR
 simp only [aP, decide_true, Bool.not_true, cond_false, nD]
 split <;> (try split) <;> rfl
theorem adn {x y : Int} : dR x y < 0 ↔ x < y := by unfold dR; split <;> (try split) <;> omega
theorem oF {x y : Int} : dR x y = 0 ↔ x = y := by unfold dR; split <;> (try split) <;> omega
def orI : List Int → Int
 | [] => 0
 | x :: r => if x = 0 then orI r else x
theorem apG (l : List Int) : mg l = some (orI l) := by
 unfold mg
 refine (x3 (f := fun l _ => some (orI l)) ?_ ?_ _ _ _)
 ·intros; rfl
 ·intro j x r s Z hZ
  simp only [orI, hZ]
  by_cases h : x = 0 <;> simp [h]
def cmpL (a b : aQ) : Int := orI [dR a.A b.A, dR a.B b.B]
theorem yz (a b : aQ) : gM a b = some (cmpL a b) := by
 unfold gM; simp only [aaG, aP, apG]; rfl
theorem ack (r : aY) (id : Int) : jt r id = some (dR r.ID id) := by
 unfold jt; simp only [aaG, aP]
theorem x4 {a b : aQ} : cmpL a b < 0 ↔ ltL a b = true := by
 have : cmpL a b < 0 ↔ a.A < b.A ∨ (a.A = b.A ∧ a.B < b.B) := by
  simp only [cmpL, orI]
  split
  ·rename_i h
   rw [oF] at h
   split
   ·rename_i h2; rw [oF] at h2; omega
   ·rw [adn]; omega
  ·rename_i h
   rw [oF] at h
   rw [adn]; omega
 rw [this]; simp [ltL]
theorem cmpL_eq {a b : aQ} : cmpL a b = 0 ↔ a.A = b.A ∧ a.B = b.B := by
 simp only [cmpL, orI]
 split
 ·rename_i h
  rw [oF] at h
  split
  ·rename_i h2; rw [oF] at h2; omega
  ·rename_i h2; rw [oF] at h2 ⊢; omega
 ·rename_i h
  rw [oF] at h ⊢; omega
/-! the binary search -/
def bsG {α : Type} [Inhabited α] (f : α → Int) (l : List α) (i j : Nat) : Nat :=
 if h : i < j then if f (el l ((i + j) / 2 : Nat)) < 0 then bsG f l ((i + j) / 2 + 1) j else bsG f l i ((i + j) / 2) else i
 termination_by j - i
 decreasing_by all_goals omega
def bsR {α : Type} [Inhabited α] (f : α → Int) (l : List α) : Nat := bsG f l 0 l.length
def bsT {α : Type} [Inhabited α] (f : α → Int) (l : List α) : Bool := decide (bsR f l < l.length) && decide (f (el l (bsR f l)) = 0)
theorem ae3 {α : Type} [Inhabited α] {f : α → Int} {l : List α} {i j : Nat} (h : i < j) (hf : f (el l ((i + j) / 2 : Nat)) < 0) : bsG f l i j = bsG f l ((i + j) / 2 + 1) j := by
 rw [bsG, dif_pos h, if_pos hf]
theorem ae4 {α : Type} [Inhabited α] {f : α → Int} {l : List α} {i j : Nat} (h : i < j) (hf : ¬ f (el l ((i + j) / 2 : Nat)) < 0) : bsG f l i j = bsG f l i ((i + j) / 2) := by
 rw [bsG, dif_pos h, if_neg hf]
theorem aaH {α : Type} [Inhabited α] {f : α → Int} {l : List α} {i j : Nat} (h : j ≤ i) : bsG f l i j = i := by
 rw [bsG, dif_neg (by omega)]
theorem ud {α : Type} [Inhabited α] {l : List α} {i : Nat} (h : i < l.length) : el l i = l[i] := by
 simp [el, List.getD_eq_getElem?_getD, h]
theorem acm {α : Type} [Inhabited α] {l : List α} {i : Nat} (h : i < l.length) : el l i ∈ l := by
 rw [ud h]; exact List.getElem_mem h
theorem sx {α : Type} [Inhabited α] {l : List α} {i : Nat} (h : i < l.length) : elO l (i : Int) = some (el l i) := by
 unfold elO; rw [if_pos (by omega), ud h]; simp [h]
theorem aaI {i j : Nat} (h : i + j ≤ 4611686018427387904) : w64 (Int.fdiv (IntKind.wrap .u64 (w64 ((i : Int) + (j : Int)))) (2 ^ min (1:Int).toNat 64)) = (((i + j) / 2 : Nat) : Int) := by
 have e1 : w64 ((i : Int) + (j : Int)) = ((i + j : Nat) : Int) := by rw [ct (by omega) (by omega)]; simp
 have e2 : IntKind.wrap .u64 ((i + j : Nat) : Int) = ((i + j : Nat) : Int) := ajQ (by omega) (by omega)
 rw [e1, e2]
 have e3 : (2 : Int) ^ min (1:Int).toNat 64 = 2 := rfl
 rw [e3, Int.fdiv_eq_ediv_of_nonneg _ (by omega)]
 rw [ct (by omega) (by omega)]; simp
theorem aaJ {α : Type} [Inhabited α] {F : ((Int × Int) → Option (Int × Bool)) → (Int × Int) → Option (Int × Bool)} (l : List α) (f : α → Int) (hl : l.length ≤ 1000000)
  (hF : ∀ (i j : Nat) Z, j ≤ l.length → F Z ((i : Int), (j : Int)) = if h : i < j then (if f (el l ((i + j) / 2 : Nat)) < 0 then Z ((((i + j) / 2 + 1 : Nat) : Int), (j : Int)) else Z ((i : Int), (((i + j) / 2 : Nat) : Int))) else some ((i : Int), decide (i < l.length) && decide (f (el l i) = 0))) :
  whl F ((0 : Int), (l.length : Int)) = some ((bsR f l : Int), bsT f l) := by
 refine Ok.eq (Ok.whl (I := fun s => ∃ i j : Nat, s = ((i : Int), (j : Int)) ∧ i ≤ j ∧ j ≤ l.length ∧ bsG f l i j = bsR f l) (μ := fun s => (s.2 - s.1).toNat) ⟨0, l.length, rfl, by omega, by omega, rfl⟩ ?_ ?_)
 ·show ((l.length : Int) - 0).toNat < _; omega
 ·rintro s Z ⟨i, j, rfl, h1, h2, h3⟩ hz
  rw [hF i j Z h2]
  split
  ·rename_i hij
   split
   ·rename_i hf
    exact hz _ ⟨_, _, rfl, by omega, h2, by rw [← h3, ae3 hij hf]⟩ (by show ((j : Int) - _).toNat < ((j : Int) - i).toNat; omega)
   ·rename_i hf
    exact hz _ ⟨_, _, rfl, by omega, by omega, by rw [← h3, ae4 hij hf]⟩ (by show ((((i + j) / 2 : Nat) : Int) - i).toNat < ((j : Int) - i).toNat; omega)
  ·rename_i hij
   have : bsR f l = i := by rw [← h3, aaH (by omega)]
   exact ⟨_, rfl, by simp only [bsT, this]⟩
theorem apH (l : List aY) (x : Int) (c : aY → Int → Option Int) (f : aY → Int) (hl : l.length ≤ 1000000) (hc : ∀ r, c r x = some (f r)) : cn l x c = some ((bsR f l : Int), bsT f l) := by
 unfold cn
 refine aaJ l f hl fun i j Z hj => ?_
 by_cases hij : i < j
 ·rw [dif_pos hij]
  simp only [aaI (i := i) (j := j) (by omega), sx (show (i + j) / 2 < l.length by omega), aP, hc, nD]
  rw [if_pos (by omega), ct (by omega) (by omega)]
  rfl
 ·rw [dif_neg hij]
  simp only [nD]
  rw [if_neg (by omega)]
  by_cases hi : i < l.length
  ·rw [if_pos (by omega), sx hi]; simp only [aP, hc]; simp [hi]
  ·rw [if_neg (by omega)]; simp [hi]
theorem bsLk (l : List aQ) (x : aQ) (c : aQ → aQ → Option Int) (f : aQ → Int) (hl : l.length ≤ 1000000) (hc : ∀ r, c r x = some (f r)) : cA l x c = some ((bsR f l : Int), bsT f l) := by
 unfold cA
 refine aaJ l f hl fun i j Z hj => ?_
 by_cases hij : i < j
 ·rw [dif_pos hij]
  simp only [aaI (i := i) (j := j) (by omega), sx (show (i + j) / 2 < l.length by omega), aP, hc, nD]
  rw [if_pos (by omega), ct (by omega) (by omega)]
  rfl
 ·rw [dif_neg hij]
  simp only [nD]
  rw [if_neg (by omega)]
  by_cases hi : i < l.length
  ·rw [if_pos (by omega), sx hi]; simp only [aP, hc]; simp [hi]
  ·rw [if_neg (by omega)]; simp [hi]
theorem ahV {α : Type} [Inhabited α] {f : α → Int} {l : List α} (hm : ∀ a b : Nat, a ≤ b → b < l.length → f (el l a) ≤ f (el l b)) : ∀ (n i j : Nat), j - i ≤ n → i ≤ j → j ≤ l.length → (∀ m : Nat, m < i → f (el l m) < 0) → (∀ m : Nat, j ≤ m → m < l.length → 0 ≤ f (el l m)) →
  bsG f l i j ≤ l.length ∧ (∀ m : Nat, m < bsG f l i j → f (el l m) < 0) ∧ (∀ m : Nat, bsG f l i j ≤ m → m < l.length → 0 ≤ f (el l m)) := by
 intro n
 induction n with
 | zero =>
  intro i j hn hij hj h1 h2
  rw [aaH (by omega)]
  exact ⟨by omega, h1, fun m hm' => h2 m (by omega)⟩
 | succ n ih =>
  intro i j hn hij hj h1 h2
  by_cases h : i < j
  ·by_cases hf : f (el l ((i + j) / 2 : Nat)) < 0
   ·rw [ae3 h hf]
    refine ih _ _ (by omega) (by omega) hj (fun m hm' => ?_) h2
    have := hm m ((i + j) / 2) (by omega) (by omega)
    omega
   ·rw [ae4 h hf]
    refine ih _ _ (by omega) (by omega) (by omega) h1 (fun m hm' hml => ?_)
    have := hm ((i + j) / 2) m hm' hml
    omega
  ·rw [aaH (by omega)]
   exact ⟨by omega, h1, fun m hm' => h2 m (by omega)⟩
theorem acn {α : Type} [Inhabited α] {f : α → Int} {l : List α} (hm : ∀ a b : Nat, a ≤ b → b < l.length → f (el l a) ≤ f (el l b)) :
  bsR f l ≤ l.length ∧ (∀ m : Nat, m < bsR f l → f (el l m) < 0) ∧ (∀ m : Nat, bsR f l ≤ m → m < l.length → 0 ≤ f (el l m)) :=
 ahV hm l.length 0 l.length (by omega) (by omega) (by omega) (fun m h => by omega) (fun m h1 h2 => by omega)
theorem aaK {α : Type} [Inhabited α] {f : α → Int} {l : List α} (hm : ∀ a b : Nat, a ≤ b → b < l.length → f (el l a) ≤ f (el l b)) : bsT f l = true ↔ ∃ x ∈ l, f x = 0 := by
 obtain ⟨h1, h2, h3⟩ := acn hm
 simp only [bsT, Bool.and_eq_true, decide_eq_true_eq]
 constructor
 ·rintro ⟨q1, q2⟩
  exact ⟨_, acm q1, q2⟩
 ·rintro ⟨x, hx, hf⟩
  obtain ⟨m, hm1, rfl⟩ := List.getElem_of_mem hx
  rw [← ud hm1] at hf
  have hle : bsR f l ≤ m := by
   by_cases q : m < bsR f l
   ·have := h2 m q; omega
   ·omega
  have hlt : bsR f l < l.length := by omega
  have := h3 _ (Nat.le_refl _) hlt
  have := hm _ _ hle hm1
  exact ⟨hlt, by omega⟩
theorem pP {α : Type} [Inhabited α] {f : α → Int} {l : List α} (h : l.Pairwise (fun a b => f a ≤ f b)) : ∀ a b : Nat, a ≤ b → b < l.length → f (el l a) ≤ f (el l b) := by
 intro a b hab hb
 rcases Nat.lt_or_eq_of_le hab with hab | rfl
 ·have := List.pairwise_iff_getElem.1 h a b (by omega) hb hab
  rwa [ud (by omega), ud hb]
 ·exact Int.le_refl _
theorem ov {α : Type} {p : α → α → Bool} (ht : ∀ a b c, p a b = true → p b c = true → p a c = true) : ∀ {l : List α}, fk p l = true → l.Pairwise (fun a b => p a b = true)
 | [], _ => List.Pairwise.nil
 | [x], _ => by simp
 | a :: b :: r, h => by
  simp only [fk, Bool.and_eq_true] at h
  have ih := ov ht h.2
  rw [List.pairwise_cons]
  refine ⟨fun z hz => ?_, ih⟩
  rcases List.mem_cons.1 hz with rfl | hz
  ·exact h.1
  ·exact ht _ _ _ h.1 ((List.pairwise_cons.1 ih).1 z hz)
theorem mG {α : Type} {p : α → α → Bool} : ∀ {l : List α}, l.Pairwise (fun a b => p a b = true) → fk p l = true
 | [], _ => rfl
 | [x], _ => rfl
 | a :: b :: r, h => by
  rw [List.pairwise_cons] at h
  simp only [fk, Bool.and_eq_true]
  exact ⟨h.1 b (by simp), mG h.2⟩
theorem ae5 {t : aD} (h : kB t = true) : t.aI.Pairwise (fun a b => a.ID < b.ID) := by
 have := ov (p := fun a b : aY => decide (a.ID < b.ID)) (fun a b c h1 h2 => by simp at h1 h2 ⊢; omega) h
 exact this.imp (fun h => by simpa using h)
theorem amu {t : aD} (h : kB t = true) (id : Int) : ∀ a b : Nat, a ≤ b → b < t.aI.length → dR (el t.aI a).ID id ≤ dR (el t.aI b).ID id :=
 pP (f := fun r : aY => dR r.ID id) ((ae5 h).imp (fun {a b} h => by unfold dR; split <;> (try split) <;> (try split) <;> (try split) <;> omega))
def ahW (t : aD) (id : Int) : Bool := !bsT (fun r => dR r.ID id) t.aI
theorem ado {t : aD} (h : kB t = true) (id : Int) : ahW t id = !hasB t id := by
 simp only [ahW, hasB]
 congr 1
 rw [Bool.eq_iff_iff, aaK (amu h id)]
 simp [oF]
theorem xo (t : aD) : fR t = some (mF t) := by
 unfold fR mF
 by_cases hlen : (decide (24 < (t.aI.length : Int)) || decide (60 < (t.Links.length : Int))) = true
 ·rw [hlen]; rfl
 rw [Bool.not_eq_true] at hlen
 rw [hlen]
 simp only [cond_false]
 simp only [Bool.or_eq_false_iff, decide_eq_false_iff_not] at hlen
 rw [cfR t.aI _ xh (fun x => by simp only [lu, iy, aP, xh]; congr 1; rw [Bool.eq_iff_iff]; simp)]
 simp only [aP]
 unfold kA
 cases t.aI.any xh
 case true => rfl
 simp only [cond_false]
 refine (xm (fun a b : aY => decide (a.ID < b.ID)) (some 25) ?_ ?_ _).trans ?_
 ·intros; rfl
 ·intro j x y r q s Z h hj
  simp only [jn, lT h hj (by omega), aP, nD]
  rw [if_pos (by omega)]
  split <;> split <;> first | rfl | omega
 cases hB : kB t
 case false => unfold kB at hB; rw [hB]; rfl
 have hB' := hB
 unfold kB at hB'
 rw [hB']
 simp only [cond_true]
 rw [cfL t.Links jk uS (fun x => by
  simp only [jk, iy, aP, uS, qO]
  simp only [nD, Bool.not_and, Bool.cond_eq_ite, Bool.or_eq_true, Bool.not_eq_true', decide_eq_false_iff_not]
  split
  ·congr 1; symm; rw [Bool.eq_iff_iff]; simp; omega
  ·split
   ·congr 1; symm; rw [Bool.eq_iff_iff]; simp; omega
   ·congr 1; rw [Bool.eq_iff_iff]; simp; omega)]
 simp only [aP]
 unfold kC
 cases t.Links.any uS
 case true => rfl
 simp only [cond_false]
 have hu : ∀ id, gN id t = some (!hasB t id) := fun id => by
  unfold gN
  rw [apH t.aI id _ (fun r => dR r.ID id) (by omega) (fun r => ack r id)]
  simp only [aP]
  rw [← ado hB]; rfl
 rw [cfL t.Links _ (fun l => !hasB t l.A || !hasB t l.B) (fun x => by
  simp only [lz, hu, aP]
  cases hasB t x.A <;> rfl)]
 simp only [aP]
 unfold kD
 cases t.Links.any _
 case true => rfl
 simp only [cond_false]
 rw [cfL t.Links lB (fun l => decide (l.B ≤ l.A)) (fun x => rfl)]
 simp only [aP]
 unfold kE
 cases t.Links.any _
 case true => rfl
 simp only [cond_false]
 refine (xm ltL (some 25) ?_ ?_ _).trans ?_
 ·intros; rfl
 ·intro j x y r q s Z h hj
  simp only [jn, lT h hj (by omega), aP, yz, nD]
  rw [if_pos (by omega)]
  cases hlt : ltL y x
  ·have : ¬ cmpL y x < 0 := by rw [x4, hlt]; simp
   rw [if_pos (by omega)]; rfl
  ·have := x4.2 hlt
   rw [if_neg (by omega)]; rfl
 unfold kF
 cases fk ltL t.Links <;> rfl
end Go.Proofs.YtpmifmdidfgpdaaGreat

/- Plain: what the apI amv give. No condition. -/
namespace Go.Proofs.YtpmifmdidfgpdaaGreat
set_option linter.all false
open Go
def cG (t : aR) : Prop := 0 ≤ t.At ∧ t.At ≤ t.L.length ∧ t.L.length ≤ 600
theorem apJ (n : Int) : w64 n ≤ 9223372036854775807 ∧ -9223372036854775808 ≤ w64 n := by
 unfold w64
 rw [IntKind.wrap_i64]; omega
theorem ae6 {x n : Int} (hn : n ≤ 9223372036854775807) : Ok (rG x n) (fun r => 0 ≤ r ∧ (1 ≤ n → r < n) ∧ (n < 1 → r = 0)) := by
 unfold rG
 refine Ok.cs (fun h => Ok.s ?_) fun h => ?_
 ·simp at h; omega
 have h : 1 ≤ n := by simpa using h
 have h1 : Int.tmod x n < n := Int.tmod_lt_of_pos _ (by omega)
 have h2 : -n < Int.tmod x n := Int.lt_tmod_of_pos _ (by omega)
 refine Ok.chk (by simp; omega) ?_
 refine Ok.jn (fun r => 0 ≤ r ∧ r < n) (fun s hs => Ok.s ⟨hs.1, fun _ => hs.2, by omega⟩) fun J hJ => ?_
 refine Ok.cs (fun hc => hJ _ ?_) fun hc => hJ _ ?_
 ·simp at hc; rw [ct (by omega) (by omega)]; omega
 ·simp at hc; omega
theorem apK {t : aR} (h : cG t) : Ok (nt t) (fun p => cG p.2) := by
 obtain ⟨h0, h1, h2⟩ := h
 unfold nt
 refine Ok.cs (fun _ => Ok.s ⟨h0, h1, h2⟩) fun hc => ?_
 simp at hc
 have e : w64 (t.At + 1) = t.At + 1 := ct (by omega) (by omega)
 rw [e, ct (by omega) (by omega)]
 refine Ok.bnd (qN (by omega) (by omega)) fun a _ => Ok.s ⟨?_, ?_, h2⟩ <;> show _ <;> simp <;> omega
theorem fM {t : aR} {n : Int} (h : cG t) (hn : n ≤ 9223372036854775807) : Ok (bU t n) (fun p => (0 ≤ p.1 ∧ (1 ≤ n → p.1 < n) ∧ (n < 1 → p.1 = 0)) ∧ cG p.2) := by
 unfold bU
 exact Ok.bnd (apK h) fun p hp => Ok.bnd (ae6 hn) fun r hr => Ok.s ⟨hr, hp⟩
theorem oy {t : aR} {low high : Int} (h : cG t) : Ok (dQ t low high) (fun p => (-2305843009213693952 ≤ low → low ≤ high → high < 2305843009213693952 → low ≤ p.1 ∧ p.1 ≤ high) ∧ cG p.2) := by
 unfold dQ
 refine Ok.bnd (fM h (apJ _).1) fun p hp => Ok.s ⟨fun h1 h2 h3 => ?_, hp.2⟩
 obtain ⟨⟨q1, q2, _⟩, _⟩ := hp
 rw [ct (n := high - low) (by omega) (by omega), ct (n := high - low + 1) (by omega) (by omega)] at q2
 show low ≤ w64 (low + p.1) ∧ w64 (low + p.1) ≤ high
 rw [ct (by omega) (by omega)]; omega
theorem j7 {t : aR} {l : List Int} (h : cG t) (h0 : 1 ≤ l.length) (h1 : l.length ≤ 1000000) : Ok (cR t l) (fun p => p.1 ∈ l ∧ cG p.2) := by
 unfold cR
 refine Ok.bnd (fM h (by omega)) fun p hp => ?_
 exact Ok.bnd (qN hp.1.1 (hp.1.2.1 (by omega))) fun a ha => Ok.s ⟨ha.1, hp.2⟩
theorem vt {t : aR} {n : Int} (h : cG t) (hn : n ≤ 9223372036854775807) : Ok (fc t n) (fun p => cG p.2) := by
 unfold fc
 exact Ok.bnd (fM h hn) fun p hp => Ok.s hp.2
theorem x5 {t : aR} (h : cG t) : Ok (eE t) (fun p => cG p.2) := by
 unfold eE
 exact Ok.bnd (j7 h (by decide) (by decide)) fun p hp => Ok.s hp.2
theorem apL (l : List Int) : Ok (tP l) cG := by
 unfold tP
 refine Ok.jn (fun m : List Int => m.length ≤ 600) (fun s hs => Ok.s ⟨by simp, by simp, hs⟩) fun J hJ => ?_
 refine Ok.cs (fun hc => ?_) fun hc => hJ _ ?_
 ·simp at hc
  exact Ok.bnd (zX ⟨by omega, by omega, by omega⟩) fun m hm => hJ _ (by omega)
 ·simp at hc; omega
end Go.Proofs.YtpmifmdidfgpdaaGreat

/- Plain: valid vX, what is left xY a failure, and what is looked up. No condition. -/
namespace Go.Proofs.YtpmifmdidfgpdaaGreat
set_option linter.all false
open Go
/-! ## lists -/
theorem aaL (a : aY) : rW a a = true := by simp [rW]
theorem aco (a : aQ) : u0 a a = true := by simp [u0]
/-- a loop bB keeps some -/
theorem xq {α γ β : Type} {B : Int → α → (List γ → Option β) → List γ → Option β} {K : List γ → Option β} (p : α → Bool) (f : α → γ) :
  ∀ (l : List α) (j : Nat) (s : List γ), (∀ (j : Nat) x Z s, x ∈ l → s.length < 1000000 → B j x Z s = bif p x then Z (s ++ [f x]) else Z s) → l.length + s.length ≤ 1000000 → bN l j B K s = K (s ++ (l.filter p).map f)
 | [], j, s, _, _ => by simp [bN]
 | x :: r, j, s, hB, h => by
  simp only [List.length_cons] at h
  simp only [bN]
  rw [hB j x _ s (by simp) (by omega)]
  have hB' : ∀ (j : Nat) y Z s, y ∈ r → s.length < 1000000 → B j y Z s = bif p y then Z (s ++ [f y]) else Z s := fun j y Z s hy => hB j y Z s (by simp [hy])
  cases hp : p x
  ·rw [cond_false, xq p f r (j + 1) s hB' (by omega), List.filter_cons_of_neg (by simp [hp])]
  ·rw [cond_true, xq p f r (j + 1) (s ++ [f x]) hB' (by simp; omega), List.filter_cons_of_pos hp]
   simp
theorem apM {α : Type} {s : List α} {x : α} (h : s.length < 1000000) : cM s [x] = some (s ++ [x]) := dP (by simp; omega)
/-- ahp ascending lists with the same members are the same -/
theorem ae7 {a b : List Int} (ha : a.Pairwise (· < ·)) (hb : b.Pairwise (· < ·)) (h : ∀ x, x ∈ a ↔ x ∈ b) : a = b := by
 induction a generalizing b with
 | nil =>
  cases b with
  | nil => rfl
  | cons y b => exact absurd ((h y).2 (by simp)) (by simp)
 | cons x a ih =>
  cases b with
  | nil => exact absurd ((h x).1 (by simp)) (by simp)
  | cons y b =>
   rw [List.pairwise_cons] at ha hb
   have hxy : x = y := by
    have h1 := (h x).1 (by simp)
    have h2 := (h y).2 (by simp)
    rw [List.mem_cons] at h1 h2
    rcases h1 with h1 | h1
    ·exact h1
    ·rcases h2 with h2 | h2
     ·exact h2.symm
     ·have := hb.1 _ h1; have := ha.1 _ h2; omega
   subst hxy
   congr 1
   refine ih ha.2 hb.2 fun z => ?_
   have := h z
   simp only [List.mem_cons] at this
   constructor
   ·intro hz
    rcases this.1 (.inr hz) with q | q
    ·subst q; have := ha.1 _ hz; omega
    ·exact q
   ·intro hz
    rcases this.2 (.inr hz) with q | q
    ·subst q; have := hb.1 _ hz; omega
    ·exact q
theorem ahX {l : List Int} (h : l.Nodup) : (iE l).Pairwise (· < ·) := by
 have h1 := tJ l
 have h2 : (iE l).Nodup := (qn l).nodup_iff.2 h
 have := h1.and h2
 exact this.imp (fun ⟨a, b⟩ => by omega)
theorem ae8 {l : List Int} {x : Int} : x ∈ iE l ↔ x ∈ l := (qn l).mem_iff
/-! ## valid vX -/
structure Vt (t : aD) : Prop where
 nr : t.aI.length ≤ 24
 nl : t.Links.length ≤ 60
 idr : ∀ r ∈ t.aI, 1 ≤ r.ID ∧ r.ID ≤ 99
 asc : t.aI.Pairwise (fun a b => a.ID < b.ID)
 okl : ∀ l ∈ t.Links, uS l = false
 ends : ∀ l ∈ t.Links, hasB t l.A = true ∧ hasB t l.B = true
 lt : ∀ l ∈ t.Links, l.A < l.B
 acp : t.Links.Pairwise (fun a b => ltL a b = true)
theorem uH (a b c : aQ) (h1 : ltL a b = true) (h2 : ltL b c = true) : ltL a c = true := by
 simp [ltL] at *; omega
theorem any_false {α : Type} {l : List α} {p : α → Bool} : l.any p = false ↔ ∀ x ∈ l, p x = false := by
 rw [List.any_eq_false]; simp
theorem nE {t : aD} : mF t = 0 ↔ Vt t := by
 unfold mF
 constructor
 ·intro h
  by_cases h1 : (decide (24 < (t.aI.length : Int)) || decide (60 < (t.Links.length : Int))) = true
  ·rw [h1] at h; cases h
  simp only [Bool.not_eq_true] at h1
  rw [h1, cond_false] at h
  cases h2 : kA t <;> rw [h2] at h <;> first | cases h; done | skip
  cases h3 : kB t <;> rw [h3] at h <;> first | cases h; done | skip
  cases h4 : kC t <;> rw [h4] at h <;> first | cases h; done | skip
  cases h5 : kD t <;> rw [h5] at h <;> first | cases h; done | skip
  cases h6 : kE t <;> rw [h6] at h <;> first | cases h; done | skip
  cases h7 : kF t <;> rw [h7] at h <;> first | cases h; done | skip
  simp only [Bool.or_eq_false_iff, decide_eq_false_iff_not] at h1
  refine ⟨by omega, by omega, fun r hr => ?_, ae5 h3, any_false.1 h4, fun l hl => ?_, fun l hl => ?_, ov uH h7⟩
  ·have := any_false.1 h2 r hr; simp [xh] at this; omega
  ·have := any_false.1 h5 l hl; simpa using this
  ·have := any_false.1 h6 l hl; simpa using this
 ·intro h
  have h1 : (decide (24 < (t.aI.length : Int)) || decide (60 < (t.Links.length : Int))) = false := by
   have := h.nr; have := h.nl; simp; omega
  have h2 : kA t = false := any_false.2 fun r hr => by have := h.idr r hr; simp [xh]; omega
  have h3 : kB t = true := mG (h.asc.imp fun h => by simpa using h)
  have h4 : kC t = false := any_false.2 h.okl
  have h5 : kD t = false := any_false.2 fun l hl => by have := h.ends l hl; simp [this]
  have h6 : kE t = false := any_false.2 fun l hl => by have := h.lt l hl; simp; omega
  have h7 : kF t = true := mG h.acp
  rw [h1, h2, h3, h4, h5, h6, h7]; rfl
theorem uI (t : aD) : fS t = some (decide (mF t = 0)) := by
 unfold fS; rw [xo]; rfl
theorem vY {t : aD} {r : Int} : hasB t r = true ↔ ∃ x ∈ t.aI, x.ID = r := by simp [hasB]
/-! ## xY -/
theorem ae9 (t : aD) : n9 t t = some true := by
 unfold n9
 simp only [decide_true, Bool.not_true, Bool.or_false, cond_false]
 refine zq (L := t.aI) (f := fun _ _ _ => some true) ?_ ?_ t.aI [] () rfl
 ·intro s
  refine zq (L := t.Links) (f := fun _ _ _ => some true) ?_ ?_ t.Links [] () rfl
  ·intros; rfl
  ·intro p x r s Z h hZ
   simp only [← h, iq, aP, aco, Bool.not_true, cond_false, hZ]
 ·intro p x r s Z h hZ
  simp only [← h, iq, aP, aaL, Bool.not_true, cond_false, hZ]
/-! ## has, capable, cost -/
theorem amw (t : aD) (r : Int) : oS t r = some (decide (mF t = 0) && hasB t r) := by
 unfold oS
 simp only [sv, adm, aP]
 cases decide (mF t = 0) <;> rfl
def vZ (t : aD) (r : Int) : aY × Bool := if bsT (fun x : aY => dR x.ID r) t.aI then (el t.aI (bsR (fun x : aY => dR x.ID r) t.aI), true) else (aY.mk 0 false, false)
theorem acq (t : aD) (r : Int) (hl : t.aI.length ≤ 1000000) : jv t r = some (vZ t r) := by
 unfold jv vZ
 rw [apH t.aI r _ (fun x => dR x.ID r) hl (fun x => ack x r)]
 simp only [aP]
 cases h : bsT (fun x : aY => dR x.ID r) t.aI
 ·rfl
 ·have h2 : bsR (fun x : aY => dR x.ID r) t.aI < t.aI.length := by
   simp only [bsT, Bool.and_eq_true, decide_eq_true_eq] at h; exact h.1
  simp only [Bool.not_true, cond_false, sx h2, aP, if_true]
theorem aaM {t : aD} (h : Vt t) (r : Int) : bsT (fun x : aY => dR x.ID r) t.aI = hasB t r := by
 have := ado (t := t) (mG (h.asc.imp fun h => by simpa using h)) r
 simpa [ahW] using this
theorem amx (t : aD) (r : Int) (hl : t.aI.length ≤ 1000000) : gO t r = some (decide (mF t = 0) && hasB t r) := by
 unfold gO
 simp only [acq t r hl, uI, aP]
 by_cases h : mF t = 0
 ·simp only [h, decide_true, cond_true, Bool.true_and, vZ, aaM (nE.1 h)]
  cases hasB t r <;> rfl
 ·simp [h]
theorem find_eq {t : aD} (h : Vt t) {x : aY} (hx : x ∈ t.aI) : vZ t x.ID = (x, true) := by
 unfold vZ
 have h1 : hasB t x.ID = true := vY.2 ⟨x, hx, rfl⟩
 have h2 := aaM h x.ID
 rw [h1] at h2
 rw [if_pos h2]
 simp only [bsT, Bool.and_eq_true, decide_eq_true_eq] at h2
 obtain ⟨q1, q2⟩ := h2
 rw [oF] at q2
 have hm := acm q1
 have hu : ∀ a ∈ t.aI, ∀ b ∈ t.aI, a.ID = b.ID → a = b := by
  intro a ha b hb hab
  obtain ⟨i, hi, rfl⟩ := List.getElem_of_mem ha
  obtain ⟨j, hj, rfl⟩ := List.getElem_of_mem hb
  have := List.pairwise_iff_getElem.1 h.asc
  rcases Nat.lt_trichotomy i j with q | q | q
  ·have := this i j hi hj q; omega
  ·subst q; rfl
  ·have := this j i hj hi q; omega
 rw [hu _ hm _ hx q2]
/-- the first bB does -/
theorem sy {α σ β : Type} {B : Int → α → (σ → Option β) → σ → Option β} {K : σ → Option β} (p : α → Bool) (g : α → Option β) (hB : ∀ j x Z s, B j x Z s = bif p x then g x else Z s) (l : List α) (j : Nat) (s : σ) :
  bN l j B K s = match l.find? p with | some x => g x | none => K s :=
 x3 (f := fun l s => match l.find? p with | some x => g x | none => K s) (fun s => rfl) (fun j x r s Z hZ => by
  rw [hB, hZ, List.find?_cons]; cases p x <;> rfl) l j s
theorem acr {t : aD} (h : Vt t) {a b : aQ} (ha : a ∈ t.Links) (hb : b ∈ t.Links) (hA : a.A = b.A) (hB : a.B = b.B) : a = b := by
 obtain ⟨i, hi, rfl⟩ := List.getElem_of_mem ha
 obtain ⟨j, hj, rfl⟩ := List.getElem_of_mem hb
 have := List.pairwise_iff_getElem.1 h.acp
 rcases Nat.lt_trichotomy i j with q | q | q
 ·have := this i j hi hj q; simp [ltL] at this; omega
 ·subst q; rfl
 ·have := this j i hj hi q; simp [ltL] at this; omega
theorem amy {t : aD} (h : Vt t) {r : Int} (hh : hasB t r = false) : vZ t r = (aY.mk 0 false, false) := by
 unfold vZ
 rw [aaM h, hh]; rfl
theorem ael (t : aD) (r : Int) (hl : t.aI.length ≤ 1000000) : ∃ b, jl t r = some b ∧ ig t r = some b := by
 unfold jl ig
 simp only [acq t r hl, uI, sv, aP]
 by_cases h : mF t = 0
 ·have hv := nE.1 h
  simp only [h, decide_true, cond_true, Bool.not_true, cond_false]
  refine ⟨_, rfl, ?_⟩
  refine (sy (fun x : aY => decide (x.ID = r)) (fun x => some x.aX) (fun _ _ _ _ => rfl) _ _ _).trans ?_
  cases hf : t.aI.find? (fun x => decide (x.ID = r)) with
  | none =>
   have : hasB t r = false := any_false.2 fun x hx => by simpa using List.find?_eq_none.1 hf x hx
   rw [amy hv this]
  | some x =>
   have hm := List.mem_of_find?_eq_some hf
   have hp := List.find?_some hf
   have hp : x.ID = r := by simpa using hp
   subst hp
   rw [find_eq hv hm]
 ·simp only [h, decide_false, cond_false, Bool.not_false, cond_true]
  exact ⟨_, rfl, rfl⟩
def eR (l : aQ) (a b : Int) : Bool := (decide (l.A = a) && decide (l.B = b)) || (decide (l.B = a) && decide (l.A = b))
def kV (a b : Int) (l : aQ) : Int × Bool := (bif decide (l.A = a) && decide (l.B = b) then l.ja else l.iF, true)
def oW (t : aD) (a b : Int) : Int × Bool := match t.Links.find? (fun l => eR l a b) with | some l => kV a b l | none => (0, false)
def qP (t : aD) (a b : Int) : Bool := t.Links.any fun l => eR l a b
theorem xu (t : aD) (a b : Int) : jF t a b = some (oW t a b) := by
 unfold jF oW
 refine (sy (fun l : aQ => eR l a b) (fun l => some (kV a b l)) (fun j x Z s => ?_) _ _ _).trans ?_
 ·unfold eR kV
  cases decide (x.A = a) && decide (x.B = b) <;> cases decide (x.B = a) && decide (x.A = b) <;> rfl
 ·cases t.Links.find? _ <;> rfl
theorem afa (t : aD) (a b : Int) : (oW t a b).2 = qP t a b := by
 unfold oW qP
 cases hf : t.Links.find? (fun l => eR l a b) with
 | none => symm; exact any_false.2 fun x hx => by simpa using List.find?_eq_none.1 hf x hx
 | some x =>
  symm
  exact List.any_eq_true.2 ⟨x, List.mem_of_find?_eq_some hf, by simpa using List.find?_some hf⟩
theorem acs {t : aD} (h : Vt t) {a b : Int} {l : aQ} (hm : l ∈ t.Links) (he : eR l a b = true) : oW t a b = kV a b l := by
 unfold oW
 cases hf : t.Links.find? (fun l => eR l a b) with
 | none => exact absurd he (List.find?_eq_none.1 hf l hm)
 | some x =>
  have hx := List.mem_of_find?_eq_some hf
  have hp := List.find?_some hf
  have h1 := h.lt _ hm
  have h2 := h.lt _ hx
  simp [eR] at he hp
  rw [acr h hx hm (by omega) (by omega)]
theorem amz {t : aD} (h : Vt t) (v : aQ) : ∀ a b : Nat, a ≤ b → b < t.Links.length → cmpL (el t.Links a) v ≤ cmpL (el t.Links b) v := by
 refine pP (f := fun l : aQ => cmpL l v) (h.acp.imp fun {a b} hab => ?_)
 have c3 : ∀ x y : Int, dR x y = -1 ∨ dR x y = 0 ∨ dR x y = 1 := fun x y => by
  unfold dR; split
  ·exact .inl rfl
  ·split
   ·exact .inr (.inr rfl)
   ·exact .inr (.inl rfl)
 have : ∀ x y : aQ, cmpL x y = -1 ∨ cmpL x y = 0 ∨ cmpL x y = 1 := fun x y => by
  have q1 := c3 x.A y.A
  have q2 := c3 x.B y.B
  simp only [cmpL, orI]
  generalize dR x.A y.A = p at *
  generalize dR x.B y.B = q at *
  by_cases h1 : p = 0
  ·by_cases h2 : q = 0 <;> simp [h1, h2]; omega
  ·simp [h1]; omega
 have h1 := @x4 a v
 have h2 := @x4 b v
 have h3 := @cmpL_eq a v
 have h4 := @cmpL_eq b v
 have q1 := this a v
 have q2 := this b v
 simp [ltL] at hab h1 h2
 omega
theorem ahY (t : aD) (a b : Int) (hl : t.Links.length ≤ 1000000) : jx t a b = some (if mF t = 0 then oW t a b else (0, false)) := by
 unfold jx
 simp only [uI, aP]
 by_cases h : mF t = 0
 ·have hv := nE.1 h
  simp only [h, decide_true, Bool.not_true, cond_false, if_true]
  generalize hv2 : aQ.mk (if b < a then b else a) (if b > a then b else a) 0 0 0 = v
  rw [bsLk t.Links v _ (fun x => cmpL x v) hl (fun x => yz x v)]
  simp only [aP]
  have hA : v.A = if b < a then b else a := by rw [← hv2]
  have hB : v.B = if b > a then b else a := by rw [← hv2]
  cases hT : bsT (fun x : aQ => cmpL x v) t.Links
  ·simp only [Bool.not_false, cond_true]
   congr 1
   unfold oW
   cases hf : t.Links.find? (fun l => eR l a b) with
   | none => rfl
   | some x =>
    exfalso
    have hx := List.mem_of_find?_eq_some hf
    have hp := List.find?_some hf
    have h2 := h
    have := (aaK (f := fun x : aQ => cmpL x v) (amz hv v)).2 ⟨x, hx, by
     rw [cmpL_eq, hA, hB]
     have := hv.lt _ hx
     simp [eR] at hp
     split <;> split <;> omega⟩
    rw [hT] at this; cases this
  ·simp only [bsT, Bool.and_eq_true, decide_eq_true_eq] at hT
   obtain ⟨q1, q2⟩ := hT
   rw [cmpL_eq, hA, hB] at q2
   have hm := acm q1
   simp only [Bool.not_true, cond_false, sx q1, aP]
   have hlt := hv.lt _ hm
   have e : eR (el t.Links (bsR (fun x : aQ => cmpL x v) t.Links)) a b = true := by
    simp [eR]; by_cases q3 : b < a <;> by_cases q4 : b > a <;> simp only [q3, q4, if_true, if_false] at q2 <;> omega
   rw [acs hv hm e]
   unfold kV
   by_cases hab : a < b
   ·have : decide (a < b) = true := by simpa using hab
    rw [this, cond_true]
    have : (decide ((el t.Links (bsR (fun x : aQ => cmpL x v) t.Links)).A = a) && decide ((el t.Links (bsR (fun x : aQ => cmpL x v) t.Links)).B = b)) = true := by
     simp; by_cases q3 : b < a <;> by_cases q4 : b > a <;> simp only [q3, q4, if_true, if_false] at q2 <;> omega
    rw [this]; rfl
   ·have : decide (a < b) = false := by simpa using hab
    rw [this, cond_false]
    have : (decide ((el t.Links (bsR (fun x : aQ => cmpL x v) t.Links)).A = a) && decide ((el t.Links (bsR (fun x : aQ => cmpL x v) t.Links)).B = b)) = false := by
     simp; by_cases q3 : b < a <;> by_cases q4 : b > a <;> simp only [q3, q4, if_true, if_false] at q2 <;> omega
    rw [this]; rfl
 ·simp [h]
/-! ## aek -/
def ids (t : aD) : List Int := t.aI.map (·.ID)
theorem apN {t : aD} (h : Vt t) : (ids t).Pairwise (· < ·) := List.pairwise_map.2 h.asc
theorem aaN {t : aD} {r : Int} : r ∈ ids t ↔ hasB t r = true := by rw [vY]; simp [ids]
theorem nJ {t : aD} {a b : Int} : qP t a b = true ↔ ∃ l ∈ t.Links, (l.A = a ∧ l.B = b) ∨ (l.B = a ∧ l.A = b) := by
 simp [qP, eR]
theorem ahZ {t : aD} {a b : Int} (h : qP t a b = true) : qP t b a = true := by
 rw [nJ] at h ⊢
 obtain ⟨l, hl, h⟩ := h
 exact ⟨l, hl, by omega⟩
theorem acu {t : aD} (hv : Vt t) {a b : Int} (h : qP t a b = true) : a ≠ b := by
 rw [nJ] at h
 obtain ⟨l, hl, h⟩ := h
 have := hv.lt l hl
 omega
theorem x6 {t : aD} (hv : Vt t) {a b : Int} (h : qP t a b = true) : b ∈ ids t := by
 rw [nJ] at h
 obtain ⟨l, hl, h⟩ := h
 have := hv.ends l hl
 rcases h with ⟨h1, h2⟩ | ⟨h1, h2⟩ <;> rw [aaN, ← h2]
 ·exact this.2
 ·exact this.1
def gz (t : aD) (r : Int) : List Int := (ids t).filter fun x => qP t r x
theorem ue {t : aD} (hv : Vt t) (r : Int) : (gz t r).Pairwise (· < ·) := (apN hv).sublist List.filter_sublist
theorem lG {t : aD} (hv : Vt t) {r x : Int} : x ∈ gz t r ↔ qP t r x = true := by
 unfold gz; rw [List.mem_filter]
 exact ⟨fun h => h.2, fun h => ⟨x6 hv h, h⟩⟩
theorem acv {t : aD} (hv : Vt t) (r : Int) : me t r = some (gz t r) := by
 unfold me
 have := hv.nr
 refine (xq (fun x : aY => qP t r x.ID) (·.ID) _ _ _ ?_ (by simp; omega)).trans ?_
 ·intro j x Z s _ hs
  simp only [jn, xu, afa, aP, apM hs]
 ·simp only [List.nil_append, gz, ids]
  rw [List.filter_map]; rfl
/-- the other end of each link of a aJ -/
def oZ (r : Int) (l : aQ) : Option Int := if r = l.A then some l.B else if r = l.B then some l.A else none
theorem xw {α γ β : Type} {B : Int → α → (List γ → Option β) → List γ → Option β} {K : List γ → Option β} (f : α → Option γ) :
  ∀ (l : List α) (j : Nat) (s : List γ), (∀ (j : Nat) x Z s, x ∈ l → s.length < 1000000 → B j x Z s = match f x with | some y => Z (s ++ [y]) | none => Z s) → l.length + s.length ≤ 1000000 → bN l j B K s = K (s ++ l.filterMap f)
 | [], j, s, _, _ => by simp [bN]
 | x :: r, j, s, hB, h => by
  simp only [List.length_cons] at h
  simp only [bN]
  rw [hB j x _ s (by simp) (by omega)]
  have hB' : ∀ (j : Nat) y Z s, y ∈ r → s.length < 1000000 → B j y Z s = match f y with | some y => Z (s ++ [y]) | none => Z s := fun j y Z s hy => hB j y Z s (by simp [hy])
  cases hp : f x with
  | none => simp only; rw [xw f r (j + 1) s hB' (by omega), List.filterMap_cons_none hp]
  | some y => simp only; rw [xw f r (j + 1) (s ++ [y]) hB' (by simp; omega), List.filterMap_cons_some hp]; simp
theorem acY {t : aD} (hv : Vt t) (r : Int) : (t.Links.filterMap (oZ r)).Nodup := by
 have key : ∀ l : List aQ, (∀ x ∈ l, x.A < x.B) → l.Pairwise (fun a b => ltL a b = true) → (l.filterMap (oZ r)).Nodup := by
  intro l
  induction l with
  | nil => intros; simp
  | cons x l ih =>
   intro h1 h2
   rw [List.pairwise_cons] at h2
   have ih := ih (fun y hy => h1 y (by simp [hy])) h2.2
   cases hx : oZ r x with
   | none => rw [List.filterMap_cons_none hx]; exact ih
   | some y =>
    rw [List.filterMap_cons_some hx, List.nodup_cons]
    refine ⟨fun hm => ?_, ih⟩
    obtain ⟨z, hz, hzy⟩ := List.mem_filterMap.1 hm
    have h3 := h2.1 z hz
    have h4 := h1 x (by simp)
    have h5 := h1 z (by simp [hz])
    unfold oZ at hx hzy
    simp [ltL] at h3
    split at hx <;> split at hzy <;> (try split at hx) <;> (try split at hzy) <;> simp at hx hzy <;> omega
 exact key _ hv.lt hv.acp
theorem afb {t : aD} {r x : Int} (hv : Vt t) : x ∈ t.Links.filterMap (oZ r) ↔ qP t r x = true := by
 rw [List.mem_filterMap, nJ]
 constructor
 ·rintro ⟨l, hl, h⟩
  unfold oZ at h
  refine ⟨l, hl, ?_⟩
  split at h
  ·simp at h; omega
  ·split at h
   ·simp at h; omega
   ·cases h
 ·rintro ⟨l, hl, h⟩
  refine ⟨l, hl, ?_⟩
  have := hv.lt l hl
  unfold oZ
  rcases h with h | h
  ·rw [if_pos (by omega), h.2]
  ·rw [if_neg (by omega), if_pos (by omega), h.2]
theorem ah0 {t : aD} (hv : Vt t) (r : Int) : fL t r = some (gz t r) := by
 unfold fL
 have := hv.nl
 refine (xw (oZ r) _ _ _ ?_ (by simp; omega)).trans ?_
 ·intro j x Z s _ hs
  simp only [jn, apM hs, aP, oZ]
  by_cases h1 : r = x.A
  ·simp [h1]
  ·by_cases h2 : r = x.B <;> simp [h1, h2]
   simp [← h2, h1]
 ·have hlen : (t.Links.filterMap (oZ r)).length ≤ 60 := Nat.le_trans (List.length_filterMap_le _ _) (by omega)
  simp only [List.nil_append]
  rw [nj (by simp; omega)]
  congr 1
  refine ae7 (ahX (acY hv r)) (ue hv r) fun x => ?_
  rw [ae8, afb hv, lG hv]
theorem aaO (t : aD) (r : Int) : gP t r = some (if mF t = 0 then gz t r else []) := by
 unfold gP
 simp only [uI, aP]
 by_cases h : mF t = 0
 ·simp [h, ah0 (nE.1 h), aP]
 ·simp [h]
end Go.Proofs.YtpmifmdidfgpdaaGreat

/- Plain: who is connected with whom. No condition. -/
namespace Go.Proofs.YtpmifmdidfgpdaaGreat
set_option linter.all false
open Go
/-- loops, with what was ae1: for vA is asked of the outcome -/
theorem auf {α σ β : Type} {B : Int → α → (σ → Option β) → σ → Option β} {K : σ → Option β} {G : Option β → Prop} (I : List α → σ → Prop) {L : List α}
  (hc : ∀ (p : List α) x r s Z, L = p ++ x :: r → I p s → (∀ s', I (p ++ [x]) s' → G (Z s')) → G (B (p.length : Int) x Z s)) (s : σ) (h : I [] s) (hn : ∀ s, I L s → G (K s)) : G (bN L 0 B K s) := by
 have key : ∀ (l p : List α) (s : σ), L = p ++ l → I p s → G (bN l p.length B K s) := by
  intro l
  induction l with
  | nil => intro p s hj h; exact hn s (by rw [hj, List.append_nil]; exact h)
  | cons x r ih =>
   intro p s hj h
   refine hc p x r s _ hj h fun s' h' => ?_
   have := ih (p ++ [x]) s' (by simp [hj]) h'
   rwa [List.length_append] at this
 exact key L [] s rfl h
theorem ah1 {σ β : Type} {F : (σ → Option β) → σ → Option β} {G : Option β → Prop} (I : σ → Prop) (μ : σ → Nat) {s : σ} (h : I s) (hm : μ s < 1099511627776)
  (hc : ∀ s Z, I s → (∀ s', I s' → μ s' < μ s → G (Z s')) → G (F Z s)) : G (whl F s) := by
 have key : ∀ (n : Nat) (s : σ), I s → μ s < n → G (iter F n s) := by
  intro n
  induction n with
  | zero => intro s _ h; omega
  | succ n ih => intro s h hm; exact hc s _ h fun s' h' hm' => ih s' h' (by omega)
 exact key fuel s h hm
/-- a loop, with what was ae1 -/
theorem Ok.pQ {α σ β : Type} {B : Int → α → (σ → Option β) → σ → Option β} {K : σ → Option β} {Q : β → Prop} (I : List α → σ → Prop) {L : List α}
  (hc : ∀ (p : List α) x r s Z, L = p ++ x :: r → I p s → (∀ s', I (p ++ [x]) s' → Ok (Z s') Q) → Ok (B (p.length : Int) x Z s) Q) (s : σ) (h : I [] s) (hn : ∀ s, I L s → Ok (K s) Q) : Ok (Go.Proofs.YtpmifmdidfgpdaaGreat.bN L 0 B K s) Q := by
 have key : ∀ (l p : List α) (s : σ), L = p ++ l → I p s → Ok (Go.Proofs.YtpmifmdidfgpdaaGreat.bN l p.length B K s) Q := by
  intro l
  induction l with
  | nil => intro p s hj h; exact hn s (by rw [hj, List.append_nil]; exact h)
  | cons x r ih =>
   intro p s hj h
   refine hc p x r s _ hj h fun s' h' => ?_
   have := ih (p ++ [x]) s' (by simp [hj]) h'
   rwa [List.length_append] at this
 exact key L [] s rfl h
theorem abd {a b : List Int} (h : a.Nodup) (hs : ∀ x ∈ a, x ∈ b) : a.length ≤ b.length := by
 induction a generalizing b with
 | nil => simp
 | cons x a ih =>
  rw [List.nodup_cons] at h
  have hx := hs x (by simp)
  have := ih (b := b.erase x) h.2 fun y hy => (List.mem_erase_of_ne (fun e => h.1 (by rw [← e]; exact hy))).2 (hs y (by simp [hy]))
  rw [List.length_erase_of_mem hx] at this
  have := List.length_pos_of_mem hx
  simp only [List.length_cons]; omega
inductive Cn (t : aD) (c : List Int) : Int → Int → Prop
 | refl {a : Int} (h : a ∉ c) : Cn t c a a
 | step {a b d : Int} (h : Cn t c a b) (ha : qP t b d = true) (hd : d ∉ c) : Cn t c a d
theorem Cn.trans {t : aD} {c : List Int} {a b d : Int} (h1 : Cn t c a b) (h2 : Cn t c b d) : Cn t c a d := by
 induction h2 with
 | refl _ => exact h1
 | step _ ha hd ih => exact .step ih ha hd
theorem Cn.left {t : aD} {c : List Int} {a b : Int} (h : Cn t c a b) : a ∉ c := by
 induction h with
 | refl h => exact h
 | step _ _ _ ih => exact ih
theorem Cn.right {t : aD} {c : List Int} {a b : Int} (h : Cn t c a b) : b ∉ c := by
 cases h with
 | refl h => exact h
 | step _ _ hd => exact hd
theorem Cn.symm {t : aD} {c : List Int} {a b : Int} (h : Cn t c a b) : Cn t c b a := by
 induction h with
 | refl h => exact .refl h
 | step h ha hd ih => exact (Cn.step (.refl hd) (ahZ ha) h.right).trans ih
theorem Cn.ids {t : aD} (hv : Vt t) {c : List Int} {a b : Int} (h : Cn t c a b) (ha : a ∈ ids t) : b ∈ ids t := by
 cases h with
 | refl h => exact ha
 | step _ hd _ => exact x6 hv hd
theorem amA {t : aD} (hv : Vt t) : (ids t).length ≤ 24 := by have := hv.nr; simpa [ids] using this
end Go.Proofs.YtpmifmdidfgpdaaGreat

/- Plain: components, amB and cuts. No condition. -/
namespace Go.Proofs.YtpmifmdidfgpdaaGreat
set_option linter.all false
open Go
/-! ## connected -/
/-! ## components -/
/-! ## amB -/
/-! ## cuts -/
end Go.Proofs.YtpmifmdidfgpdaaGreat
