/- Several texts in one. No condition but those that stand in each. -/
import Derived.Test.YtpmifmdidfgpdaaGreatBA
import Derived.Test.YtpmifmdidfgpdaaGreatDA
/- Plain facts on the words in which the program is written gI. No program in sight. No condition. -/
namespace Go.Proofs.YtpmifmdidfgpdaaGreat
set_option linter.all false
open Go
theorem aO {α β : Type} (a : α) (k : α → Option β) : bnd (some a) k = k a := rfl
theorem mb {β : Type} {c : Bool} {k : Option β} (h : c = true) : chk c k = k := by subst h; rfl
theorem pK {α : Type} {p : Prop} [Decidable p] {x y : α} : (bif decide p then x else y) = if p then x else y := by
 by_cases h : p <;> simp [h]
/-- a loop along a list comes to what 'f' ao5 -/
theorem yS {α σ β : Type} {B : Int → α → (σ → Option β) → σ → Option β} {K : σ → Option β} (f : List α → σ → Option β) (hn : ∀ s, K s = f [] s)
  (hc : ∀ (j : Int) x r s Z, (∀ s', Z s' = f r s') → B j x Z s = f (x :: r) s) : ∀ (l : List α) (j : Nat) (s : σ), bM l j B K s = f l s
 | [], _, s => hn s
 | x :: r, j, s => hc j x r s _ fun s' => yS f hn hc r (j + 1) s'
/-- the same, with what was aqx -/
theorem aah {α σ β : Type} {B : Int → α → (σ → Option β) → σ → Option β} {K : σ → Option β} {L : List α} (f : List α → List α → σ → Option β) (hn : ∀ s, K s = f L [] s)
  (hc : ∀ p x r s Z, p ++ x :: r = L → (∀ s', Z s' = f (p ++ [x]) r s') → B (p.length : Int) x Z s = f p (x :: r) s) : ∀ (l p : List α) (s : σ), p ++ l = L → bM l p.length B K s = f p l s
 | [], p, s, h => by rw [List.append_nil] at h; subst h; exact hn s
 | x :: r, p, s, h => hc p x r s _ h fun s' => by
   have := aah (B := B) (K := K) f hn hc r (p ++ [x]) s' (by simpa using h)
   rw [List.length_append] at this
   exact this
/-- what is so of a result -/
def Ok {β : Type} (o : Option β) (Q : β → Prop) : Prop := ∃ r, o = some r ∧ Q r
theorem Ok.s {β : Type} {Q : β → Prop} {r : β} (h : Q r) : Ok (some r) Q := ⟨r, rfl, h⟩
theorem Ok.bnd {α β : Type} {o : Option α} {k : α → Option β} {P : α → Prop} {Q : β → Prop} (h : Ok o P) (hk : ∀ a, P a → Ok (k a) Q) : Ok (bnd o k) Q := by
 obtain ⟨a, rfl, ha⟩ := h; exact hk a ha
theorem Ok.cs {β : Type} {c : Bool} {x y : Option β} {Q : β → Prop} (h1 : c = true → Ok x Q) (h2 : c = false → Ok y Q) : Ok (bif c then x else y) Q := by
 cases c
 ·exact h2 rfl
 ·exact h1 rfl
theorem Ok.chk {β : Type} {c : Bool} {k : Option β} {Q : β → Prop} (h : c = true) (hk : Ok k Q) : Ok (chk c k) Q := by subst h; exact hk
theorem Ok.jn {σ β : Type} {k : σ → Option β} {t : (σ → Option β) → Option β} {Q : β → Prop} (R : σ → Prop) (h1 : ∀ s, R s → Ok (k s) Q) (h2 : ∀ J, (∀ s, R s → Ok (J s) Q) → Ok (t J) Q) : Ok (jn k t) Q := h2 k h1
theorem Ok.mono {β : Type} {o : Option β} {Q Q' : β → Prop} (h : Ok o Q) (hq : ∀ r, Q r → Q' r) : Ok o Q' := by
 obtain ⟨r, h1, h2⟩ := h; exact ⟨r, h1, hq r h2⟩
theorem Ok.bM {α σ β : Type} {B : Int → α → (σ → Option β) → σ → Option β} {K : σ → Option β} {Q : β → Prop} (I : Nat → σ → Prop)
  (hc : ∀ (j : Nat) x s Z, I j s → (∀ s', I (j + 1) s' → Ok (Z s') Q) → Ok (B (j : Int) x Z s) Q) : ∀ (l : List α) (j : Nat) (s : σ), I j s → (∀ s, I (j + l.length) s → Ok (K s) Q) → Ok (bM l j B K s) Q
 | [], j, s, h, hn => hn s (by simpa using h)
 | x :: r, j, s, h, hn => hc j x s _ h fun s' h' => Ok.bM I hc r (j + 1) s' h' fun s hs => hn s (by rwa [List.length_cons, ← Nat.add_assoc, Nat.add_right_comm])
theorem Ok.eU {σ β : Type} {B : Int → (σ → Option β) → σ → Option β} {K : Int → σ → Option β} {Q : β → Prop} (I : Int → σ → Prop) (lo hi : Int)
  (hc : ∀ (i : Int) s Z, lo ≤ i → i < hi → I i s → (∀ s', I (i + 1) s' → Ok (Z s') Q) → Ok (B i Z s) Q) (hn : ∀ i s, lo ≤ i → (lo ≤ hi → i = hi) → I i s → Ok (K i s) Q) : ∀ (n : Nat) (i : Int) (s : σ), n = (hi - i).toNat → lo ≤ i → (lo ≤ hi → i ≤ hi) → I i s → Ok (eU n i B K s) Q
 | 0, i, s, hn0, h1, h2, h => hn i s h1 (fun hh => by have := h2 hh; omega) h
 | n + 1, i, s, hn0, h1, h2, h => hc i s _ h1 (by omega) h fun s' h' => Ok.eU I lo hi hc hn n (i + 1) s' (by omega) (by omega) (fun _ => by omega) h'
theorem Ok.iter {σ β : Type} {F : (σ → Option β) → σ → Option β} {Q : β → Prop} (I : σ → Prop) (μ : σ → Nat)
  (hc : ∀ s Z, I s → (∀ s', I s' → μ s' < μ s → Ok (Z s') Q) → Ok (F Z s) Q) : ∀ (n : Nat) (s : σ), I s → μ s < n → Ok (iter F n s) Q
 | 0, s, _, h => by omega
 | n + 1, s, h, hm => hc s _ h fun s' h' hm' => Ok.iter I μ hc n s' h' (by omega)
theorem Ok.whl {σ β : Type} {F : (σ → Option β) → σ → Option β} {Q : β → Prop} (I : σ → Prop) (μ : σ → Nat) {s : σ} (h : I s) (hm : μ s < 1099511627776)
  (hc : ∀ s Z, I s → (∀ s', I s' → μ s' < μ s → Ok (Z s') Q) → Ok (F Z s) Q) : Ok (whl F s) Q := Ok.iter I μ hc fuel s h hm
theorem Ok.get {β : Type} {o : Option β} {Q : β → Prop} (h : Ok o Q) : ∃ r, o = some r ∧ Q r := h
theorem Ok.eq {β : Type} {o : Option β} {r : β} (h : Ok o (fun x => x = r)) : o = some r := by obtain ⟨x, h1, rfl⟩ := h; exact h1
theorem iP {α : Type} (p : List α) (x : α) (r : List α) : elO (p ++ x :: r) (p.length : Int) = some x := by
 unfold elO; rw [if_pos (by omega)]; simp
theorem kY {α : Type} {l : List α} {i : Int} (h0 : 0 ≤ i) (h : i < l.length) : Ok (elO l i) (fun x => x ∈ l ∧ l[i.toNat]? = some x) := by
 unfold elO; rw [if_pos h0]
 have : i.toNat < l.length := by omega
 exact ⟨l[i.toNat], List.getElem?_eq_getElem this, List.getElem_mem this, List.getElem?_eq_getElem this⟩
theorem dZ {α : Type} {l r : List α} (h : l.length + r.length ≤ 549755813888) : cM l r = some (l ++ r) := by unfold cM; rw [if_pos (by unfold cap; exact h)]
theorem gr {α : Type} {l r : List α} (h : l.length + r.length ≤ 549755813888) : Ok (cM l r) (fun m => m = l ++ r ∧ m.length = l.length + r.length) := ⟨_, dZ h, rfl, by simp⟩
theorem agd {α : Type} {l : List α} {i : Int} {x : α} (h0 : 0 ≤ i) (h : i < l.length) : Ok (iZ l i x) (fun m => m = l.set i.toNat x ∧ m.length = l.length) := by
 unfold iZ; rw [if_pos ⟨h0, h⟩]; exact ⟨_, rfl, rfl, by simp⟩
theorem we {α : Type} {l : List α} {a b : Int} (h : 0 ≤ a ∧ a ≤ b ∧ b ≤ l.length) : Ok (mO l a b) (fun m => m = (l.take b.toNat).drop a.toNat ∧ (m.length : Int) = b - a) := by
 unfold mO; rw [if_pos h]; exact ⟨_, rfl, rfl, by simp; omega⟩
/-- the first loop: does any do -/
theorem qh {α σ β : Type} {B : Int → α → (σ → Option β) → σ → Option β} {K : σ → Option β} (p : α → Bool) (a : Option β) (hB : ∀ j x Z s, B j x Z s = bif p x then a else Z s) (l : List α) (j : Nat) (s : σ) : bM l j B K s = bif l.any p then a else K s :=
 yS (f := fun l s => bif l.any p then a else K s) (fun s => rfl) (fun j x r s Z hZ => by
  rw [hB, hZ, List.any_cons]; cases p x <;> rfl) l j s
end Go.Proofs.YtpmifmdidfgpdaaGreat

/- Plain: the two Checks of a aai aa3 to the same. No condition. -/
namespace Go.Proofs.YtpmifmdidfgpdaaGreat
set_option linter.all false
open Go
def rI (n : Int) : Bool := decide (1 ≤ n) && decide (n ≤ 1000)
def hasB (t : aB) (r : Int) : Bool := t.aK.any fun x => decide (x.ID = r)
def xZ (r : aZ) : Bool := decide (r.ID < 1) || decide (99 < r.ID)
def vu (l : aX) : Bool := !rI l.jx || !rI l.jc || decide (l.bY < 0) || decide (1000 < l.bY)
def ltL (a b : aX) : Bool := decide (a.A < b.A) || (decide (a.A = b.A) && decide (a.B < b.B))
def fH {α : Type} (p : α → α → Bool) : List α → Bool
 | a :: b :: r => p a b && fH p (b :: r)
 | _ => true
def kA (t : aB) : Bool := t.aK.any xZ
def kB (t : aB) : Bool := fH (fun a b => decide (a.ID < b.ID)) t.aK
def kC (t : aB) : Bool := t.Links.any vu
def kD (t : aB) : Bool := t.Links.any fun l => !hasB t l.A || !hasB t l.B
def kE (t : aB) : Bool := t.Links.any fun l => decide (l.B ≤ l.A)
def kF (t : aB) : Bool := fH ltL t.Links
def mA (t : aB) : Int :=
 bif decide (24 < (t.aK.length : Int)) || decide (60 < (t.Links.length : Int)) then 3
 else bif kA t then 2 else bif kB t then (bif kC t then 2 else bif kD t then 4 else bif kE t then 8 else bif kF t then 0 else 25) else 25
/-- a loop bF looks at afi, behind the first -/
theorem aaj {α σ β : Type} {B : Int → α → (σ → Option β) → σ → Option β} {K : σ → Option β} {L : List α} (p : α → α → Bool) (a : Option β)
  (hB : ∀ (j : Nat) x y r q s Z, L = q ++ y :: x :: r → j = q.length + 1 → B (j : Int) x Z s = bif p y x then Z s else a) : ∀ (r q : List α) (y : α) (s : σ), L = q ++ y :: r → bM r (q.length + 1) B K s = bif fH p (y :: r) then K s else a
 | [], q, y, s, h => rfl
 | x :: r, q, y, s, h => by
  simp only [bM]
  rw [hB (q.length + 1) x y r q s _ h rfl]
  have := aaj (B := B) (K := K) p a hB r (q ++ [y]) x s (by simpa using h)
  simp only [List.length_append, List.length_cons, List.length_nil] at this
  rw [this]
  simp only [fH]
  cases p y x <;> rfl
theorem x2 {α σ β : Type} {B : Int → α → (σ → Option β) → σ → Option β} {K : σ → Option β} {L : List α} (p : α → α → Bool) (a : Option β)
  (hB : ∀ (j : Nat) x y r q s Z, L = q ++ y :: x :: r → j = q.length + 1 → B (j : Int) x Z s = bif p y x then Z s else a) (s : σ) : bM (L.drop 1) 1 B K s = bif fH p L then K s else a := by
 cases L with
 | nil => rfl
 | cons y r => exact aaj (B := B) (K := K) p a hB r [] y s rfl
theorem x3 {α σ β : Type} {B : Int → α → (σ → Option β) → σ → Option β} {K : σ → Option β} {L : List α} (p : α → α → Bool) (a : Option β) (h0 : ∀ x Z s, B ((0 : Nat) : Int) x Z s = Z s)
  (hB : ∀ (j : Nat) x y r q s Z, L = q ++ y :: x :: r → j = q.length + 1 → B (j : Int) x Z s = bif p y x then Z s else a) (s : σ) : bM L 0 B K s = bif fH p L then K s else a := by
 cases L with
 | nil => rfl
 | cons y r =>
  simp only [bM]
  rw [h0]
  exact aaj (B := B) (K := K) p a hB r [] y s rfl
/-- the place ahead -/
theorem mB {α : Type} {L : List α} {j : Nat} {y x : α} {r q : List α} (h : L = q ++ y :: x :: r) (hj : j = q.length + 1) (hL : (L.length : Int) ≤ 9223372036854775807) : elO L (w64 ((j : Int) - 1)) = some y := by
 have hl : q.length + 2 ≤ L.length := by rw [h]; simp
 rw [cC (by omega) (by omega), show (j : Int) - 1 = (q.length : Int) by omega, h, iP]
theorem ai7 (n : Int) : oM n = some (rI n) := rfl
theorem ad8 (t : aB) (r : Int) : mh t r = some (hasB t r) := by
 unfold mh
 refine (qh (fun x : aZ => decide (x.ID = r)) (some true) ?_ _ _ _).trans ?_
 ·intros; rfl
 ·unfold hasB; cases t.aK.any _ <;> rfl
theorem sU (t : aB) : iS t = some (mA t) := by
 unfold iS mA
 by_cases hlen : (decide (24 < (t.aK.length : Int)) || decide (60 < (t.Links.length : Int))) = true
 ·rw [hlen]; rfl
 rw [Bool.not_eq_true] at hlen
 rw [hlen]
 simp only [cond_false]
 simp only [Bool.or_eq_false_iff, decide_eq_false_iff_not] at hlen
 refine (qh xZ (some 2) ?_ _ _ _).trans ?_
 ·intros; rfl
 unfold kA
 cases t.aK.any xZ
 case true => rfl
 simp only [cond_false]
 refine (x2 (fun a b : aZ => decide (a.ID < b.ID)) (some 25) ?_ _).trans ?_
 ·intro j x y r q s Z h hj
  simp only [mB h hj (by omega), aO, pK]
  split <;> split <;> first | rfl | omega
 unfold kB
 cases fH _ t.aK
 case false => rfl
 simp only [cond_true]
 refine (qh vu (some 2) ?_ _ _ _).trans ?_
 ·intro j x Z s
  simp only [jn, ai7, aO, vu]
  cases rI x.jx <;> cases rI x.jc <;> simp [pK] <;> (try split) <;> (try split) <;> simp_all <;> omega
 unfold kC
 cases t.Links.any vu
 case true => rfl
 simp only [cond_false]
 refine (qh (fun l => !hasB t l.A || !hasB t l.B) (some 4) ?_ _ _ _).trans ?_
 ·intro j x Z s
  simp only [jn, ad8, aO]
  cases hasB t x.A <;> cases hasB t x.B <;> rfl
 unfold kD
 cases t.Links.any _
 case true => rfl
 simp only [cond_false]
 refine (qh (fun l => decide (l.B ≤ l.A)) (some 8) ?_ _ _ _).trans ?_
 ·intros; rfl
 unfold kE
 cases t.Links.any _
 case true => rfl
 simp only [cond_false]
 refine (x2 ltL (some 25) ?_ _).trans ?_
 ·intro j x y r q s Z h hj
  have e : (decide (x.A < y.A) || (decide (y.A = x.A) && decide (x.B ≤ y.B))) = !ltL y x := by
   rw [Bool.eq_iff_iff]; simp [ltL]; omega
  simp only [mB h hj (by omega), aO]
  rw [e]
  cases ltL y x <;> rfl
 unfold kF
 cases fH ltL t.Links <;> rfl
/-! ## the xL -/
theorem uL {α σ : Type} {B : Int → α → (σ → Option Int) → σ → Option Int} {K : σ → Option Int} (p : α → Bool) (hB : ∀ j x Z s, B j x Z s = bif p x then some j else Z s) (hK : ∀ s, K s = some (-1)) : ∀ (l : List α) (j : Nat) (s : σ), ∃ r, bM l j B K s = some r ∧ decide (0 ≤ r) = l.any p
 | [], j, s => ⟨-1, hK s, rfl⟩
 | x :: r, j, s => by
  simp only [bM, hB, List.any_cons]
  cases p x
  ·simpa using uL p hB hK r (j + 1) s
  ·exact ⟨j, rfl, by simp⟩
theorem cfR (l : List aZ) (f : aZ → Option Bool) (p : aZ → Bool) (hf : ∀ x, f x = some (p x)) : cZ l f = some (l.any p) := by
 unfold cZ dS
 obtain ⟨r, h1, h2⟩ := uL (B := fun (j1 : Int) (e1 : aZ) (Z1 : Unit → Option Int) (sg : Unit) => match sg with | () => bnd (f e1) fun (af : Bool) => bif af then some (j1 : Int) else Z1 ()) (K := fun (sg : Unit) => match sg with | () => some (-1:Int)) p (fun j x Z s => by simp only [hf, aO]) (fun _ => rfl) l 0 ()
 simp only [h1, aO, h2]
theorem cfL (l : List aX) (f : aX → Option Bool) (p : aX → Bool) (hf : ∀ x, f x = some (p x)) : cA l f = some (l.any p) := by
 unfold cA eB
 obtain ⟨r, h1, h2⟩ := uL (B := fun (j1 : Int) (e1 : aX) (Z1 : Unit → Option Int) (sg : Unit) => match sg with | () => bnd (f e1) fun (af : Bool) => bif af then some (j1 : Int) else Z1 ()) (K := fun (sg : Unit) => match sg with | () => some (-1:Int)) p (fun j x Z s => by simp only [hf, aO]) (fun _ => rfl) l 0 ()
 simp only [h1, aO, h2]
def eY (x y : Int) : Int := if x < y then -1 else if y < x then 1 else 0
theorem abr (x y : Int) : ew x y = some (eY x y) := by
 unfold ew lU eY
 simp only [aO, decide_true, Bool.not_true, cond_false, pK]
 split <;> (try split) <;> rfl
theorem ad9 {x y : Int} : eY x y < 0 ↔ x < y := by unfold eY; split <;> (try split) <;> omega
theorem wg {x y : Int} : eY x y = 0 ↔ x = y := by unfold eY; split <;> (try split) <;> omega
def orI : List Int → Int
 | [] => 0
 | x :: r => if x = 0 then orI r else x
theorem aqy (l : List Int) : mU l = some (orI l) := by
 unfold mU
 refine (yS (f := fun l _ => some (orI l)) ?_ ?_ _ _ _)
 ·intros; rfl
 ·intro j x r s Z hZ
  simp only [orI, hZ]
  by_cases h : x = 0 <;> simp [h]
def cmpL (a b : aX) : Int := orI [eY a.A b.A, eY a.B b.B]
theorem adJ (a b : aX) : iq a b = some (cmpL a b) := by
 unfold iq; simp only [abr, aO, aqy]; rfl
theorem ac8 (r : aZ) (id : Int) : jR r id = some (eY r.ID id) := by
 unfold jR; simp only [abr, aO]
theorem aea {a b : aX} : cmpL a b < 0 ↔ ltL a b = true := by
 have : cmpL a b < 0 ↔ a.A < b.A ∨ (a.A = b.A ∧ a.B < b.B) := by
  simp only [cmpL, orI]
  split
  ·rename_i h
   rw [wg] at h
   split
   ·rename_i h2; rw [wg] at h2; omega
   ·rw [ad9]; omega
  ·rename_i h
   rw [wg] at h
   rw [ad9]; omega
 rw [this]; simp [ltL]
/-! the binary search -/
def bsG {α : Type} [Inhabited α] (f : α → Int) (l : List α) (i j : Nat) : Nat :=
 if h : i < j then if f (el l ((i + j) / 2 : Nat)) < 0 then bsG f l ((i + j) / 2 + 1) j else bsG f l i ((i + j) / 2) else i
 termination_by j - i
 decreasing_by all_goals omega
def bsR {α : Type} [Inhabited α] (f : α → Int) (l : List α) : Nat := bsG f l 0 l.length
def bsT {α : Type} [Inhabited α] (f : α → Int) (l : List α) : Bool := decide (bsR f l < l.length) && decide (f (el l (bsR f l)) = 0)
theorem age {α : Type} [Inhabited α] {f : α → Int} {l : List α} {i j : Nat} (h : i < j) (hf : f (el l ((i + j) / 2 : Nat)) < 0) : bsG f l i j = bsG f l ((i + j) / 2 + 1) j := by
 rw [bsG, dif_pos h, if_pos hf]
theorem agf {α : Type} [Inhabited α] {f : α → Int} {l : List α} {i j : Nat} (h : i < j) (hf : ¬ f (el l ((i + j) / 2 : Nat)) < 0) : bsG f l i j = bsG f l i ((i + j) / 2) := by
 rw [bsG, dif_pos h, if_neg hf]
theorem abt {α : Type} [Inhabited α] {f : α → Int} {l : List α} {i j : Nat} (h : j ≤ i) : bsG f l i j = i := by
 rw [bsG, dif_neg (by omega)]
theorem uM {α : Type} [Inhabited α] {l : List α} {i : Nat} (h : i < l.length) : el l i = l[i] := by
 simp [el, List.getD_eq_getElem?_getD, h]
theorem agh {α : Type} [Inhabited α] {l : List α} {i : Nat} (h : i < l.length) : el l i ∈ l := by
 rw [uM h]; exact List.getElem_mem h
theorem x4 {α : Type} [Inhabited α] {l : List α} {i : Nat} (h : i < l.length) : elO l (i : Int) = some (el l i) := by
 unfold elO; rw [if_pos (by omega), uM h]; simp [h]
theorem aeb {i j : Nat} (h : i + j ≤ 4611686018427387904) : w64 (Int.fdiv (IntKind.wrap .u64 (w64 ((i : Int) + (j : Int)))) (2 ^ min (1:Int).toNat 64)) = (((i + j) / 2 : Nat) : Int) := by
 have e1 : w64 ((i : Int) + (j : Int)) = ((i + j : Nat) : Int) := by rw [cC (by omega) (by omega)]; simp
 have e2 : IntKind.wrap .u64 ((i + j : Nat) : Int) = ((i + j : Nat) : Int) := akO (by omega) (by omega)
 rw [e1, e2]
 have e3 : (2 : Int) ^ min (1:Int).toNat 64 = 2 := rfl
 rw [e3, Int.fdiv_eq_ediv_of_nonneg _ (by omega)]
 rw [cC (by omega) (by omega)]; simp
theorem aec {α : Type} [Inhabited α] {F : ((Int × Int) → Option (Int × Bool)) → (Int × Int) → Option (Int × Bool)} (l : List α) (f : α → Int) (hl : l.length ≤ 1000000)
  (hF : ∀ (i j : Nat) Z, j ≤ l.length → F Z ((i : Int), (j : Int)) = if h : i < j then (if f (el l ((i + j) / 2 : Nat)) < 0 then Z ((((i + j) / 2 + 1 : Nat) : Int), (j : Int)) else Z ((i : Int), (((i + j) / 2 : Nat) : Int))) else some ((i : Int), decide (i < l.length) && decide (f (el l i) = 0))) :
  whl F ((0 : Int), (l.length : Int)) = some ((bsR f l : Int), bsT f l) := by
 refine Ok.eq (Ok.whl (I := fun s => ∃ i j : Nat, s = ((i : Int), (j : Int)) ∧ i ≤ j ∧ j ≤ l.length ∧ bsG f l i j = bsR f l) (μ := fun s => (s.2 - s.1).toNat) ⟨0, l.length, rfl, by omega, by omega, rfl⟩ ?_ ?_)
 ·show ((l.length : Int) - 0).toNat < _; omega
 ·rintro s Z ⟨i, j, rfl, h1, h2, h3⟩ hz
  rw [hF i j Z h2]
  split
  ·rename_i hij
   split
   ·rename_i hf
    exact hz _ ⟨_, _, rfl, by omega, h2, by rw [← h3, age hij hf]⟩ (by show ((j : Int) - _).toNat < ((j : Int) - i).toNat; omega)
   ·rename_i hf
    exact hz _ ⟨_, _, rfl, by omega, by omega, by rw [← h3, agf hij hf]⟩ (by show ((((i + j) / 2 : Nat) : Int) - i).toNat < ((j : Int) - i).toNat; omega)
  ·rename_i hij
   have : bsR f l = i := by rw [← h3, abt (by omega)]
   exact ⟨_, rfl, by simp only [bsT, this]⟩
theorem aqz (l : List aZ) (x : Int) (c : aZ → Int → Option Int) (f : aZ → Int) (hl : l.length ≤ 1000000) (hc : ∀ r, c r x = some (f r)) : cq l x c = some ((bsR f l : Int), bsT f l) := by
 unfold cq
 refine aec l f hl fun i j Z hj => ?_
 by_cases hij : i < j
 ·rw [dif_pos hij]
  simp only [aeb (i := i) (j := j) (by omega), x4 (show (i + j) / 2 < l.length by omega), aO, hc, pK]
  rw [if_pos (by omega), cC (by omega) (by omega)]
  rfl
 ·rw [dif_neg hij]
  simp only [pK]
  rw [if_neg (by omega)]
  by_cases hi : i < l.length
  ·rw [if_pos (by omega), x4 hi]; simp only [aO, hc]; simp [hi]
  ·rw [if_neg (by omega)]; simp [hi]
theorem ai8 {α : Type} [Inhabited α] {f : α → Int} {l : List α} (hm : ∀ a b : Nat, a ≤ b → b < l.length → f (el l a) ≤ f (el l b)) : ∀ (n i j : Nat), j - i ≤ n → i ≤ j → j ≤ l.length → (∀ m : Nat, m < i → f (el l m) < 0) → (∀ m : Nat, j ≤ m → m < l.length → 0 ≤ f (el l m)) →
  bsG f l i j ≤ l.length ∧ (∀ m : Nat, m < bsG f l i j → f (el l m) < 0) ∧ (∀ m : Nat, bsG f l i j ≤ m → m < l.length → 0 ≤ f (el l m)) := by
 intro n
 induction n with
 | zero =>
  intro i j hn hij hj h1 h2
  rw [abt (by omega)]
  exact ⟨by omega, h1, fun m hm' => h2 m (by omega)⟩
 | succ n ih =>
  intro i j hn hij hj h1 h2
  by_cases h : i < j
  ·by_cases hf : f (el l ((i + j) / 2 : Nat)) < 0
   ·rw [age h hf]
    refine ih _ _ (by omega) (by omega) hj (fun m hm' => ?_) h2
    have := hm m ((i + j) / 2) (by omega) (by omega)
    omega
   ·rw [agf h hf]
    refine ih _ _ (by omega) (by omega) (by omega) h1 (fun m hm' hml => ?_)
    have := hm ((i + j) / 2) m hm' hml
    omega
  ·rw [abt (by omega)]
   exact ⟨by omega, h1, fun m hm' => h2 m (by omega)⟩
theorem ac9 {α : Type} [Inhabited α] {f : α → Int} {l : List α} (hm : ∀ a b : Nat, a ≤ b → b < l.length → f (el l a) ≤ f (el l b)) :
  bsR f l ≤ l.length ∧ (∀ m : Nat, m < bsR f l → f (el l m) < 0) ∧ (∀ m : Nat, bsR f l ≤ m → m < l.length → 0 ≤ f (el l m)) :=
 ai8 hm l.length 0 l.length (by omega) (by omega) (by omega) (fun m h => by omega) (fun m h1 h2 => by omega)
theorem aed {α : Type} [Inhabited α] {f : α → Int} {l : List α} (hm : ∀ a b : Nat, a ≤ b → b < l.length → f (el l a) ≤ f (el l b)) : bsT f l = true ↔ ∃ x ∈ l, f x = 0 := by
 obtain ⟨h1, h2, h3⟩ := ac9 hm
 simp only [bsT, Bool.and_eq_true, decide_eq_true_eq]
 constructor
 ·rintro ⟨q1, q2⟩
  exact ⟨_, agh q1, q2⟩
 ·rintro ⟨x, hx, hf⟩
  obtain ⟨m, hm1, rfl⟩ := List.getElem_of_mem hx
  rw [← uM hm1] at hf
  have hle : bsR f l ≤ m := by
   by_cases q : m < bsR f l
   ·have := h2 m q; omega
   ·omega
  have hlt : bsR f l < l.length := by omega
  have := h3 _ (Nat.le_refl _) hlt
  have := hm _ _ hle hm1
  exact ⟨hlt, by omega⟩
theorem uN {α : Type} [Inhabited α] {f : α → Int} {l : List α} (h : l.Pairwise (fun a b => f a ≤ f b)) : ∀ a b : Nat, a ≤ b → b < l.length → f (el l a) ≤ f (el l b) := by
 intro a b hab hb
 rcases Nat.lt_or_eq_of_le hab with hab | rfl
 ·have := List.pairwise_iff_getElem.1 h a b (by omega) hb hab
  rwa [uM (by omega), uM hb]
 ·exact Int.le_refl _
theorem oU {α : Type} {p : α → α → Bool} (ht : ∀ a b c, p a b = true → p b c = true → p a c = true) : ∀ {l : List α}, fH p l = true → l.Pairwise (fun a b => p a b = true)
 | [], _ => List.Pairwise.nil
 | [x], _ => by simp
 | a :: b :: r, h => by
  simp only [fH, Bool.and_eq_true] at h
  have ih := oU ht h.2
  rw [List.pairwise_cons]
  refine ⟨fun z hz => ?_, ih⟩
  rcases List.mem_cons.1 hz with rfl | hz
  ·exact h.1
  ·exact ht _ _ _ h.1 ((List.pairwise_cons.1 ih).1 z hz)
theorem nt {α : Type} {p : α → α → Bool} : ∀ {l : List α}, l.Pairwise (fun a b => p a b = true) → fH p l = true
 | [], _ => rfl
 | [x], _ => rfl
 | a :: b :: r, h => by
  rw [List.pairwise_cons] at h
  simp only [fH, Bool.and_eq_true]
  exact ⟨h.1 b (by simp), nt h.2⟩
theorem agi {t : aB} (h : kB t = true) : t.aK.Pairwise (fun a b => a.ID < b.ID) := by
 have := oU (p := fun a b : aZ => decide (a.ID < b.ID)) (fun a b c h1 h2 => by simp at h1 h2 ⊢; omega) h
 exact this.imp (fun h => by simpa using h)
theorem anq {t : aB} (h : kB t = true) (id : Int) : ∀ a b : Nat, a ≤ b → b < t.aK.length → eY (el t.aK a).ID id ≤ eY (el t.aK b).ID id :=
 uN (f := fun r : aZ => eY r.ID id) ((agi h).imp (fun {a b} h => by unfold eY; split <;> (try split) <;> (try split) <;> (try split) <;> omega))
def ai9 (t : aB) (id : Int) : Bool := !bsT (fun r => eY r.ID id) t.aK
theorem aee {t : aB} (h : kB t = true) (id : Int) : ai9 t id = !hasB t id := by
 simp only [ai9, hasB]
 congr 1
 rw [Bool.eq_iff_iff, aed (anq h id)]
 simp [wg]
theorem x5 (t : aB) : gj t = some (mA t) := by
 unfold gj mA
 by_cases hlen : (decide (24 < (t.aK.length : Int)) || decide (60 < (t.Links.length : Int))) = true
 ·rw [hlen]; rfl
 rw [Bool.not_eq_true] at hlen
 rw [hlen]
 simp only [cond_false]
 simp only [Bool.or_eq_false_iff, decide_eq_false_iff_not] at hlen
 rw [cfR t.aK _ xZ (fun x => by simp only [lV, iT, aO, xZ]; congr 1; rw [Bool.eq_iff_iff]; simp)]
 simp only [aO]
 unfold kA
 cases t.aK.any xZ
 case true => rfl
 simp only [cond_false]
 refine (x3 (fun a b : aZ => decide (a.ID < b.ID)) (some 25) ?_ ?_ _).trans ?_
 ·intros; rfl
 ·intro j x y r q s Z h hj
  simp only [jn, mB h hj (by omega), aO, pK]
  rw [if_pos (by omega)]
  split <;> split <;> first | rfl | omega
 cases hB : kB t
 case false => unfold kB at hB; rw [hB]; rfl
 have hB' := hB
 unfold kB at hB'
 rw [hB']
 simp only [cond_true]
 rw [cfL t.Links jI vu (fun x => by
  simp only [jI, iT, aO, vu, rI]
  simp only [pK, Bool.not_and, Bool.cond_eq_ite, Bool.or_eq_true, Bool.not_eq_true', decide_eq_false_iff_not]
  split
  ·congr 1; symm; rw [Bool.eq_iff_iff]; simp; omega
  ·split
   ·congr 1; symm; rw [Bool.eq_iff_iff]; simp; omega
   ·congr 1; rw [Bool.eq_iff_iff]; simp; omega)]
 simp only [aO]
 unfold kC
 cases t.Links.any vu
 case true => rfl
 simp only [cond_false]
 have hu : ∀ id, ir id t = some (!hasB t id) := fun id => by
  unfold ir
  rw [aqz t.aK id _ (fun r => eY r.ID id) (by omega) (fun r => ac8 r id)]
  simp only [aO]
  rw [← aee hB]; rfl
 rw [cfL t.Links _ (fun l => !hasB t l.A || !hasB t l.B) (fun x => by
  simp only [lW, hu, aO]
  cases hasB t x.A <;> rfl)]
 simp only [aO]
 unfold kD
 cases t.Links.any _
 case true => rfl
 simp only [cond_false]
 rw [cfL t.Links lX (fun l => decide (l.B ≤ l.A)) (fun x => rfl)]
 simp only [aO]
 unfold kE
 cases t.Links.any _
 case true => rfl
 simp only [cond_false]
 refine (x3 ltL (some 25) ?_ ?_ _).trans ?_
 ·intros; rfl
 ·intro j x y r q s Z h hj
  simp only [jn, mB h hj (by omega), aO, adJ, pK]
  rw [if_pos (by omega)]
  cases hlt : ltL y x
  ·have : ¬ cmpL y x < 0 := by rw [aea, hlt]; simp
   rw [if_pos (by omega)]; rfl
  ·have := aea.2 hlt
   rw [if_neg (by omega)]; rfl
 unfold kF
 cases fH ltL t.Links <;> rfl
end Go.Proofs.YtpmifmdidfgpdaaGreat

/- Plain: what the aqA anr give. No condition. -/
namespace Go.Proofs.YtpmifmdidfgpdaaGreat
set_option linter.all false
open Go
def cH (t : aP) : Prop := 0 ≤ t.At ∧ t.At ≤ t.L.length ∧ t.L.length ≤ 600
theorem aqB (n : Int) : w64 n ≤ 9223372036854775807 ∧ -9223372036854775808 ≤ w64 n := by
 unfold w64
 rw [IntKind.wrap_i64]; omega
theorem agj {x n : Int} (hn : n ≤ 9223372036854775807) : Ok (r9 x n) (fun r => 0 ≤ r ∧ (1 ≤ n → r < n) ∧ (n < 1 → r = 0)) := by
 unfold r9
 refine Ok.cs (fun h => Ok.s ?_) fun h => ?_
 ·simp at h; omega
 have h : 1 ≤ n := by simpa using h
 have h1 : Int.tmod x n < n := Int.tmod_lt_of_pos _ (by omega)
 have h2 : -n < Int.tmod x n := Int.lt_tmod_of_pos _ (by omega)
 refine Ok.chk (by simp; omega) ?_
 refine Ok.jn (fun r => 0 ≤ r ∧ r < n) (fun s hs => Ok.s ⟨hs.1, fun _ => hs.2, by omega⟩) fun J hJ => ?_
 refine Ok.cs (fun hc => hJ _ ?_) fun hc => hJ _ ?_
 ·simp at hc; rw [cC (by omega) (by omega)]; omega
 ·simp at hc; omega
theorem aqC {t : aP} (h : cH t) : Ok (nV t) (fun p => cH p.2) := by
 obtain ⟨h0, h1, h2⟩ := h
 unfold nV
 refine Ok.cs (fun _ => Ok.s ⟨h0, h1, h2⟩) fun hc => ?_
 simp at hc
 have e : w64 (t.At + 1) = t.At + 1 := cC (by omega) (by omega)
 rw [e, cC (by omega) (by omega)]
 refine Ok.bnd (kY (by omega) (by omega)) fun a _ => Ok.s ⟨?_, ?_, h2⟩ <;> show _ <;> simp <;> omega
theorem fZ {t : aP} {n : Int} (h : cH t) (hn : n ≤ 9223372036854775807) : Ok (bV t n) (fun p => (0 ≤ p.1 ∧ (1 ≤ n → p.1 < n) ∧ (n < 1 → p.1 = 0)) ∧ cH p.2) := by
 unfold bV
 exact Ok.bnd (aqC h) fun p hp => Ok.bnd (agj hn) fun r hr => Ok.s ⟨hr, hp⟩
theorem mC {t : aP} {low high : Int} (h : cH t) : Ok (dG t low high) (fun p => (-2305843009213693952 ≤ low → low ≤ high → high < 2305843009213693952 → low ≤ p.1 ∧ p.1 ≤ high) ∧ cH p.2) := by
 unfold dG
 refine Ok.bnd (fZ h (aqB _).1) fun p hp => Ok.s ⟨fun h1 h2 h3 => ?_, hp.2⟩
 obtain ⟨⟨q1, q2, _⟩, _⟩ := hp
 rw [cC (n := high - low) (by omega) (by omega), cC (n := high - low + 1) (by omega) (by omega)] at q2
 show low ≤ w64 (low + p.1) ∧ w64 (low + p.1) ≤ high
 rw [cC (by omega) (by omega)]; omega
theorem kP {t : aP} {l : List Int} (h : cH t) (h0 : 1 ≤ l.length) (h1 : l.length ≤ 1000000) : Ok (cV t l) (fun p => p.1 ∈ l ∧ cH p.2) := by
 unfold cV
 refine Ok.bnd (fZ h (by omega)) fun p hp => ?_
 exact Ok.bnd (kY hp.1.1 (hp.1.2.1 (by omega))) fun a ha => Ok.s ⟨ha.1, hp.2⟩
theorem wh {t : aP} {n : Int} (h : cH t) (hn : n ≤ 9223372036854775807) : Ok (fF t n) (fun p => cH p.2) := by
 unfold fF
 exact Ok.bnd (fZ h hn) fun p hp => Ok.s hp.2
theorem yT {t : aP} (h : cH t) : Ok (eW t) (fun p => cH p.2) := by
 unfold eW
 exact Ok.bnd (kP h (by decide) (by decide)) fun p hp => Ok.s hp.2
theorem agk (l : List Int) : Ok (si l) cH := by
 unfold si
 refine Ok.jn (fun m : List Int => m.length ≤ 600) (fun s hs => Ok.s ⟨by simp, by simp, hs⟩) fun J hJ => ?_
 refine Ok.cs (fun hc => ?_) fun hc => hJ _ ?_
 ·simp at hc
  exact Ok.bnd (we ⟨by omega, by omega, by omega⟩) fun m hm => hJ _ (by omega)
 ·simp at hc; omega
end Go.Proofs.YtpmifmdidfgpdaaGreat

/- Plain: valid wS, what is left yM a failure, and what is looked up. No condition. -/
namespace Go.Proofs.YtpmifmdidfgpdaaGreat
set_option linter.all false
open Go
/-! ## lists -/
theorem ans {α : Type} [DecidableEq α] {l : List α} {v : α} : l.any (fun x => decide (x = v)) = decide (v ∈ l) := by
 rw [Bool.eq_iff_iff]; simp
theorem aef (l : List Int) (n : Int) : oh l n = some (decide (n ∈ l)) := by
 unfold oh
 refine (qh (fun x : Int => decide (x = n)) (some true) ?_ _ _ _).trans ?_
 ·intros; rfl
 ·rw [ans]; cases decide (n ∈ l) <;> rfl
theorem aeg (l : List Int) (n : Int) : dQ l n = some (decide (n ∈ l)) := by
 unfold dQ jd
 obtain ⟨r, h1, h2⟩ := uL (B := fun (j1 : Int) (e1 : Int) (Z1 : Unit → Option Int) (sg : Unit) => match sg with | () => bif decide (n = e1) then some (j1 : Int) else Z1 ()) (K := fun (sg : Unit) => match sg with | () => some (-1:Int)) (fun x => decide (n = x)) (fun j x Z s => rfl) (fun _ => rfl) l 0 ()
 simp only [h1, aO, h2]
 congr 1
 rw [Bool.eq_iff_iff]; simp
theorem abu (a : aZ) : sK a a = true := by simp [sK]
theorem ada (a : aX) : vH a a = true := by simp [vH]
/-- a loop bF keeps some -/
theorem x6 {α γ β : Type} {B : Int → α → (List γ → Option β) → List γ → Option β} {K : List γ → Option β} (p : α → Bool) (f : α → γ) :
  ∀ (l : List α) (j : Nat) (s : List γ), (∀ (j : Nat) x Z s, x ∈ l → s.length < 1000000 → B j x Z s = bif p x then Z (s ++ [f x]) else Z s) → l.length + s.length ≤ 1000000 → bM l j B K s = K (s ++ (l.filter p).map f)
 | [], j, s, _, _ => by simp [bM]
 | x :: r, j, s, hB, h => by
  simp only [List.length_cons] at h
  simp only [bM]
  rw [hB j x _ s (by simp) (by omega)]
  have hB' : ∀ (j : Nat) y Z s, y ∈ r → s.length < 1000000 → B j y Z s = bif p y then Z (s ++ [f y]) else Z s := fun j y Z s hy => hB j y Z s (by simp [hy])
  cases hp : p x
  ·rw [cond_false, x6 p f r (j + 1) s hB' (by omega), List.filter_cons_of_neg (by simp [hp])]
  ·rw [cond_true, x6 p f r (j + 1) (s ++ [f x]) hB' (by simp; omega), List.filter_cons_of_pos hp]
   simp
theorem aqD {α : Type} {s : List α} {x : α} (h : s.length < 1000000) : cM s [x] = some (s ++ [x]) := dZ (by simp; omega)
/-- aiB ascending lists with the same members are the same -/
theorem x7 {a b : List Int} (ha : a.Pairwise (· < ·)) (hb : b.Pairwise (· < ·)) (h : ∀ x, x ∈ a ↔ x ∈ b) : a = b := by
 induction a generalizing b with
 | nil =>
  cases b with
  | nil => rfl
  | cons y b => exact absurd ((h y).2 (by simp)) (by simp)
 | cons x a ih =>
  cases b with
  | nil => exact absurd ((h x).1 (by simp)) (by simp)
  | cons y b =>
   rw [List.pairwise_cons] at ha hb
   have hxy : x = y := by
    have h1 := (h x).1 (by simp)
    have h2 := (h y).2 (by simp)
    rw [List.mem_cons] at h1 h2
    rcases h1 with h1 | h1
    ·exact h1
    ·rcases h2 with h2 | h2
     ·exact h2.symm
     ·have := hb.1 _ h1; have := ha.1 _ h2; omega
   subst hxy
   congr 1
   refine ih ha.2 hb.2 fun z => ?_
   have := h z
   simp only [List.mem_cons] at this
   constructor
   ·intro hz
    rcases this.1 (.inr hz) with q | q
    ·subst q; have := ha.1 _ hz; omega
    ·exact q
   ·intro hz
    rcases this.2 (.inr hz) with q | q
    ·subst q; have := hb.1 _ hz; omega
    ·exact q
theorem adb {l : List Int} (h : l.Nodup) : (jb l).Pairwise (· < ·) := by
 have h1 := uq l
 have h2 : (jb l).Nodup := (qM l).nodup_iff.2 h
 have := h1.and h2
 exact this.imp (fun ⟨a, b⟩ => by omega)
theorem abX {l : List Int} {x : Int} : x ∈ jb l ↔ x ∈ l := (qM l).mem_iff
/-! ## valid wS -/
structure Vt (t : aB) : Prop where
 nr : t.aK.length ≤ 24
 nl : t.Links.length ≤ 60
 idr : ∀ r ∈ t.aK, 1 ≤ r.ID ∧ r.ID ≤ 99
 asc : t.aK.Pairwise (fun a b => a.ID < b.ID)
 okl : ∀ l ∈ t.Links, vu l = false
 ends : ∀ l ∈ t.Links, hasB t l.A = true ∧ hasB t l.B = true
 lt : ∀ l ∈ t.Links, l.A < l.B
 afj : t.Links.Pairwise (fun a b => ltL a b = true)
theorem vg (a b c : aX) (h1 : ltL a b = true) (h2 : ltL b c = true) : ltL a c = true := by
 simp [ltL] at *; omega
theorem any_false {α : Type} {l : List α} {p : α → Bool} : l.any p = false ↔ ∀ x ∈ l, p x = false := by
 rw [List.any_eq_false]; simp
theorem oe {t : aB} : mA t = 0 ↔ Vt t := by
 unfold mA
 constructor
 ·intro h
  by_cases h1 : (decide (24 < (t.aK.length : Int)) || decide (60 < (t.Links.length : Int))) = true
  ·rw [h1] at h; cases h
  simp only [Bool.not_eq_true] at h1
  rw [h1, cond_false] at h
  cases h2 : kA t <;> rw [h2] at h <;> first | cases h; done | skip
  cases h3 : kB t <;> rw [h3] at h <;> first | cases h; done | skip
  cases h4 : kC t <;> rw [h4] at h <;> first | cases h; done | skip
  cases h5 : kD t <;> rw [h5] at h <;> first | cases h; done | skip
  cases h6 : kE t <;> rw [h6] at h <;> first | cases h; done | skip
  cases h7 : kF t <;> rw [h7] at h <;> first | cases h; done | skip
  simp only [Bool.or_eq_false_iff, decide_eq_false_iff_not] at h1
  refine ⟨by omega, by omega, fun r hr => ?_, agi h3, any_false.1 h4, fun l hl => ?_, fun l hl => ?_, oU vg h7⟩
  ·have := any_false.1 h2 r hr; simp [xZ] at this; omega
  ·have := any_false.1 h5 l hl; simpa using this
  ·have := any_false.1 h6 l hl; simpa using this
 ·intro h
  have h1 : (decide (24 < (t.aK.length : Int)) || decide (60 < (t.Links.length : Int))) = false := by
   have := h.nr; have := h.nl; simp; omega
  have h2 : kA t = false := any_false.2 fun r hr => by have := h.idr r hr; simp [xZ]; omega
  have h3 : kB t = true := nt (h.asc.imp fun h => by simpa using h)
  have h4 : kC t = false := any_false.2 h.okl
  have h5 : kD t = false := any_false.2 fun l hl => by have := h.ends l hl; simp [this]
  have h6 : kE t = false := any_false.2 fun l hl => by have := h.lt l hl; simp; omega
  have h7 : kF t = true := nt h.afj
  rw [h1, h2, h3, h4, h5, h6, h7]; rfl
theorem x8 (t : aB) : gm t = some (decide (mA t = 0)) := by
 unfold gm; rw [x5]; rfl
theorem wT {t : aB} {r : Int} : hasB t r = true ↔ ∃ x ∈ t.aK, x.ID = r := by simp [hasB]
/-! ## yM -/
theorem abY (t : aB) : mT t t = some true := by
 unfold mT
 simp only [decide_true, Bool.not_true, Bool.or_false, cond_false]
 refine aah (L := t.aK) (f := fun _ _ _ => some true) ?_ ?_ t.aK [] () rfl
 ·intro s
  refine aah (L := t.Links) (f := fun _ _ _ => some true) ?_ ?_ t.Links [] () rfl
  ·intros; rfl
  ·intro p x r s Z h hZ
   simp only [← h, iP, aO, ada, Bool.not_true, cond_false, hZ]
 ·intro p x r s Z h hZ
  simp only [← h, iP, aO, abu, Bool.not_true, cond_false, hZ]
/-! ## has, capable, cost -/
theorem aeh (t : aB) (r : Int) : mj t r = some (decide (mA t = 0) && hasB t r) := by
 unfold mj
 simp only [sU, ad8, aO]
 cases decide (mA t = 0) <;> rfl
def wU (t : aB) (r : Int) : aZ × Bool := if bsT (fun x : aZ => eY x.ID r) t.aK then (el t.aK (bsR (fun x : aZ => eY x.ID r) t.aK), true) else (aZ.mk 0 false, false)
theorem ade (t : aB) (r : Int) (hl : t.aK.length ≤ 1000000) : jS t r = some (wU t r) := by
 unfold jS wU
 rw [aqz t.aK r _ (fun x => eY x.ID r) hl (fun x => ac8 x r)]
 simp only [aO]
 cases h : bsT (fun x : aZ => eY x.ID r) t.aK
 ·rfl
 ·have h2 : bsR (fun x : aZ => eY x.ID r) t.aK < t.aK.length := by
   simp only [bsT, Bool.and_eq_true, decide_eq_true_eq] at h; exact h.1
  simp only [Bool.not_true, cond_false, x4 h2, aO, if_true]
theorem abv {t : aB} (h : Vt t) (r : Int) : bsT (fun x : aZ => eY x.ID r) t.aK = hasB t r := by
 have := aee (t := t) (nt (h.asc.imp fun h => by simpa using h)) r
 simpa [ai9] using this
theorem aei (t : aB) (r : Int) (hl : t.aK.length ≤ 1000000) : iu t r = some (decide (mA t = 0) && hasB t r) := by
 unfold iu
 simp only [ade t r hl, x8, aO]
 by_cases h : mA t = 0
 ·simp only [h, decide_true, cond_true, Bool.true_and, wU, abv (oe.1 h)]
  cases hasB t r <;> rfl
 ·simp [h]
theorem find_eq {t : aB} (h : Vt t) {x : aZ} (hx : x ∈ t.aK) : wU t x.ID = (x, true) := by
 unfold wU
 have h1 : hasB t x.ID = true := wT.2 ⟨x, hx, rfl⟩
 have h2 := abv h x.ID
 rw [h1] at h2
 rw [if_pos h2]
 simp only [bsT, Bool.and_eq_true, decide_eq_true_eq] at h2
 obtain ⟨q1, q2⟩ := h2
 rw [wg] at q2
 have hm := agh q1
 have hu : ∀ a ∈ t.aK, ∀ b ∈ t.aK, a.ID = b.ID → a = b := by
  intro a ha b hb hab
  obtain ⟨i, hi, rfl⟩ := List.getElem_of_mem ha
  obtain ⟨j, hj, rfl⟩ := List.getElem_of_mem hb
  have := List.pairwise_iff_getElem.1 h.asc
  rcases Nat.lt_trichotomy i j with q | q | q
  ·have := this i j hi hj q; omega
  ·subst q; rfl
  ·have := this j i hj hi q; omega
 rw [hu _ hm _ hx q2]
/-- the first bF does -/
theorem sV {α σ β : Type} {B : Int → α → (σ → Option β) → σ → Option β} {K : σ → Option β} (p : α → Bool) (g : α → Option β) (hB : ∀ j x Z s, B j x Z s = bif p x then g x else Z s) (l : List α) (j : Nat) (s : σ) :
  bM l j B K s = match l.find? p with | some x => g x | none => K s :=
 yS (f := fun l s => match l.find? p with | some x => g x | none => K s) (fun s => rfl) (fun j x r s Z hZ => by
  rw [hB, hZ, List.find?_cons]; cases p x <;> rfl) l j s
theorem adf {t : aB} (h : Vt t) {a b : aX} (ha : a ∈ t.Links) (hb : b ∈ t.Links) (hA : a.A = b.A) (hB : a.B = b.B) : a = b := by
 obtain ⟨i, hi, rfl⟩ := List.getElem_of_mem ha
 obtain ⟨j, hj, rfl⟩ := List.getElem_of_mem hb
 have := List.pairwise_iff_getElem.1 h.afj
 rcases Nat.lt_trichotomy i j with q | q | q
 ·have := this i j hi hj q; simp [ltL] at this; omega
 ·subst q; rfl
 ·have := this j i hj hi q; simp [ltL] at this; omega
theorem ant {t : aB} (h : Vt t) {r : Int} (hh : hasB t r = false) : wU t r = (aZ.mk 0 false, false) := by
 unfold wU
 rw [abv h, hh]; rfl
theorem afk (t : aB) (r : Int) (hl : t.aK.length ≤ 1000000) : ∃ b, jJ t r = some b ∧ iK t r = some b := by
 unfold jJ iK
 simp only [ade t r hl, x8, sU, aO]
 by_cases h : mA t = 0
 ·have hv := oe.1 h
  simp only [h, decide_true, cond_true, Bool.not_true, cond_false]
  refine ⟨_, rfl, ?_⟩
  refine (sV (fun x : aZ => decide (x.ID = r)) (fun x => some x.bh) (fun _ _ _ _ => rfl) _ _ _).trans ?_
  cases hf : t.aK.find? (fun x => decide (x.ID = r)) with
  | none =>
   have : hasB t r = false := any_false.2 fun x hx => by simpa using List.find?_eq_none.1 hf x hx
   rw [ant hv this]
  | some x =>
   have hm := List.mem_of_find?_eq_some hf
   have hp := List.find?_some hf
   have hp : x.ID = r := by simpa using hp
   subst hp
   rw [find_eq hv hm]
 ·simp only [h, decide_false, cond_false, Bool.not_false, cond_true]
  exact ⟨_, rfl, rfl⟩
def gW (l : aX) (a b : Int) : Bool := (decide (l.A = a) && decide (l.B = b)) || (decide (l.B = a) && decide (l.A = b))
def nu (a b : Int) (l : aX) : Int × Bool := (bif decide (l.A = a) && decide (l.B = b) then l.jx else l.jc, true)
def wj (t : aB) (a b : Int) : Int × Bool := match t.Links.find? (fun l => gW l a b) with | some l => nu a b l | none => (0, false)
def nv (t : aB) (a b : Int) : Bool := t.Links.any fun l => gW l a b
theorem abZ (t : aB) (a b : Int) : lI t a b = some (wj t a b) := by
 unfold lI wj
 refine (sV (fun l : aX => gW l a b) (fun l => some (nu a b l)) (fun j x Z s => ?_) _ _ _).trans ?_
 ·unfold gW nu
  cases decide (x.A = a) && decide (x.B = b) <;> cases decide (x.B = a) && decide (x.A = b) <;> rfl
 ·cases t.Links.find? _ <;> rfl
theorem agl (t : aB) (a b : Int) : (wj t a b).2 = nv t a b := by
 unfold wj nv
 cases hf : t.Links.find? (fun l => gW l a b) with
 | none => symm; exact any_false.2 fun x hx => by simpa using List.find?_eq_none.1 hf x hx
 | some x =>
  symm
  exact List.any_eq_true.2 ⟨x, List.mem_of_find?_eq_some hf, by simpa using List.find?_some hf⟩
theorem aja {t : aB} (h : Vt t) {a b : Int} {l : aX} (hm : l ∈ t.Links) (he : gW l a b = true) : wj t a b = nu a b l := by
 unfold wj
 cases hf : t.Links.find? (fun l => gW l a b) with
 | none => exact absurd he (List.find?_eq_none.1 hf l hm)
 | some x =>
  have hx := List.mem_of_find?_eq_some hf
  have hp := List.find?_some hf
  have h1 := h.lt _ hm
  have h2 := h.lt _ hx
  simp [gW] at he hp
  rw [adf h hx hm (by omega) (by omega)]
/-! ## afi -/
def ids (t : aB) : List Int := t.aK.map (·.ID)
theorem agm {t : aB} (h : Vt t) : (ids t).Pairwise (· < ·) := List.pairwise_map.2 h.asc
theorem sj {t : aB} {r : Int} : r ∈ ids t ↔ hasB t r = true := by rw [wT]; simp [ids]
theorem o5 {t : aB} {a b : Int} : nv t a b = true ↔ ∃ l ∈ t.Links, (l.A = a ∧ l.B = b) ∨ (l.B = a ∧ l.A = b) := by
 simp [nv, gW]
theorem ajb {t : aB} {a b : Int} (h : nv t a b = true) : nv t b a = true := by
 rw [o5] at h ⊢
 obtain ⟨l, hl, h⟩ := h
 exact ⟨l, hl, by omega⟩
theorem agn {t : aB} (hv : Vt t) {a b : Int} (h : nv t a b = true) : a ≠ b := by
 rw [o5] at h
 obtain ⟨l, hl, h⟩ := h
 have := hv.lt l hl
 omega
theorem yU {t : aB} (hv : Vt t) {a b : Int} (h : nv t a b = true) : b ∈ ids t := by
 rw [o5] at h
 obtain ⟨l, hl, h⟩ := h
 have := hv.ends l hl
 rcases h with ⟨h1, h2⟩ | ⟨h1, h2⟩ <;> rw [sj, ← h2]
 ·exact this.2
 ·exact this.1
def jD (t : aB) (r : Int) : List Int := (ids t).filter fun x => nv t r x
theorem wV {t : aB} (hv : Vt t) (r : Int) : (jD t r).Pairwise (· < ·) := (agm hv).sublist List.filter_sublist
theorem jO {t : aB} (hv : Vt t) {r x : Int} : x ∈ jD t r ↔ nv t r x = true := by
 unfold jD; rw [List.mem_filter]
 exact ⟨fun h => h.2, fun h => ⟨yU hv h, h⟩⟩
theorem aak {t : aB} (hv : Vt t) (r : Int) : kU t r = some (jD t r) := by
 unfold kU
 have := hv.nr
 refine (x6 (fun x : aZ => nv t r x.ID) (·.ID) _ _ _ ?_ (by simp; omega)).trans ?_
 ·intro j x Z s _ hs
  simp only [jn, abZ, agl, aO, aqD hs]
 ·simp only [List.nil_append, jD, ids]
  rw [List.filter_map]; rfl
/-- the other end of each link of a aC -/
def pL (r : Int) (l : aX) : Option Int := if r = l.A then some l.B else if r = l.B then some l.A else none
theorem x9 {α γ β : Type} {B : Int → α → (List γ → Option β) → List γ → Option β} {K : List γ → Option β} (f : α → Option γ) :
  ∀ (l : List α) (j : Nat) (s : List γ), (∀ (j : Nat) x Z s, x ∈ l → s.length < 1000000 → B j x Z s = match f x with | some y => Z (s ++ [y]) | none => Z s) → l.length + s.length ≤ 1000000 → bM l j B K s = K (s ++ l.filterMap f)
 | [], j, s, _, _ => by simp [bM]
 | x :: r, j, s, hB, h => by
  simp only [List.length_cons] at h
  simp only [bM]
  rw [hB j x _ s (by simp) (by omega)]
  have hB' : ∀ (j : Nat) y Z s, y ∈ r → s.length < 1000000 → B j y Z s = match f y with | some y => Z (s ++ [y]) | none => Z s := fun j y Z s hy => hB j y Z s (by simp [hy])
  cases hp : f x with
  | none => simp only; rw [x9 f r (j + 1) s hB' (by omega), List.filterMap_cons_none hp]
  | some y => simp only; rw [x9 f r (j + 1) (s ++ [y]) hB' (by simp; omega), List.filterMap_cons_some hp]; simp
theorem adK {t : aB} (hv : Vt t) (r : Int) : (t.Links.filterMap (pL r)).Nodup := by
 have key : ∀ l : List aX, (∀ x ∈ l, x.A < x.B) → l.Pairwise (fun a b => ltL a b = true) → (l.filterMap (pL r)).Nodup := by
  intro l
  induction l with
  | nil => intros; simp
  | cons x l ih =>
   intro h1 h2
   rw [List.pairwise_cons] at h2
   have ih := ih (fun y hy => h1 y (by simp [hy])) h2.2
   cases hx : pL r x with
   | none => rw [List.filterMap_cons_none hx]; exact ih
   | some y =>
    rw [List.filterMap_cons_some hx, List.nodup_cons]
    refine ⟨fun hm => ?_, ih⟩
    obtain ⟨z, hz, hzy⟩ := List.mem_filterMap.1 hm
    have h3 := h2.1 z hz
    have h4 := h1 x (by simp)
    have h5 := h1 z (by simp [hz])
    unfold pL at hx hzy
    simp [ltL] at h3
    split at hx <;> split at hzy <;> (try split at hx) <;> (try split at hzy) <;> simp at hx hzy <;> omega
 exact key _ hv.lt hv.afj
theorem ago {t : aB} {r x : Int} (hv : Vt t) : x ∈ t.Links.filterMap (pL r) ↔ nv t r x = true := by
 rw [List.mem_filterMap, o5]
 constructor
 ·rintro ⟨l, hl, h⟩
  unfold pL at h
  refine ⟨l, hl, ?_⟩
  split at h
  ·simp at h; omega
  ·split at h
   ·simp at h; omega
   ·cases h
 ·rintro ⟨l, hl, h⟩
  refine ⟨l, hl, ?_⟩
  have := hv.lt l hl
  unfold pL
  rcases h with h | h
  ·rw [if_pos (by omega), h.2]
  ·rw [if_neg (by omega), if_pos (by omega), h.2]
theorem adg {t : aB} (hv : Vt t) (r : Int) : fW t r = some (jD t r) := by
 unfold fW
 have := hv.nl
 refine (x9 (pL r) _ _ _ ?_ (by simp; omega)).trans ?_
 ·intro j x Z s _ hs
  simp only [jn, aqD hs, aO, pL]
  by_cases h1 : r = x.A
  ·simp [h1]
  ·by_cases h2 : r = x.B <;> simp [h1, h2]
   simp [← h2, h1]
 ·have hlen : (t.Links.filterMap (pL r)).length ≤ 60 := Nat.le_trans (List.length_filterMap_le _ _) (by omega)
  simp only [List.nil_append]
  rw [mb (by simp; omega)]
  congr 1
  refine x7 (adb (adK hv r)) (wV hv r) fun x => ?_
  rw [abX, ago hv, jO hv]
theorem abw (t : aB) (r : Int) : iw t r = some (if mA t = 0 then jD t r else []) := by
 unfold iw
 simp only [x8, aO]
 by_cases h : mA t = 0
 ·simp [h, adg (oe.1 h), aO]
 ·simp [h]
end Go.Proofs.YtpmifmdidfgpdaaGreat

/- Plain: who is connected with whom. No condition. -/
namespace Go.Proofs.YtpmifmdidfgpdaaGreat
set_option linter.all false
open Go
/-- a loop, with what was aqx -/
theorem Ok.pq {α σ β : Type} {B : Int → α → (σ → Option β) → σ → Option β} {K : σ → Option β} {Q : β → Prop} (I : List α → σ → Prop) {L : List α}
  (hc : ∀ (p : List α) x r s Z, L = p ++ x :: r → I p s → (∀ s', I (p ++ [x]) s' → Ok (Z s') Q) → Ok (B (p.length : Int) x Z s) Q) (s : σ) (h : I [] s) (hn : ∀ s, I L s → Ok (K s) Q) : Ok (Go.Proofs.YtpmifmdidfgpdaaGreat.bM L 0 B K s) Q := by
 have key : ∀ (l p : List α) (s : σ), L = p ++ l → I p s → Ok (Go.Proofs.YtpmifmdidfgpdaaGreat.bM l p.length B K s) Q := by
  intro l
  induction l with
  | nil => intro p s hj h; exact hn s (by rw [hj, List.append_nil]; exact h)
  | cons x r ih =>
   intro p s hj h
   refine hc p x r s _ hj h fun s' h' => ?_
   have := ih (p ++ [x]) s' (by simp [hj]) h'
   rwa [List.length_append] at this
 exact key L [] s rfl h
theorem sW {a b : List Int} (h : a.Nodup) (hs : ∀ x ∈ a, x ∈ b) : a.length ≤ b.length := by
 induction a generalizing b with
 | nil => simp
 | cons x a ih =>
  rw [List.nodup_cons] at h
  have hx := hs x (by simp)
  have := ih (b := b.erase x) h.2 fun y hy => (List.mem_erase_of_ne (fun e => h.1 (by rw [← e]; exact hy))).2 (hs y (by simp [hy]))
  rw [List.length_erase_of_mem hx] at this
  have := List.length_pos_of_mem hx
  simp only [List.length_cons]; omega
inductive Cn (t : aB) (c : List Int) : Int → Int → Prop
 | refl {a : Int} (h : a ∉ c) : Cn t c a a
 | step {a b d : Int} (h : Cn t c a b) (ha : nv t b d = true) (hd : d ∉ c) : Cn t c a d
theorem Cn.trans {t : aB} {c : List Int} {a b d : Int} (h1 : Cn t c a b) (h2 : Cn t c b d) : Cn t c a d := by
 induction h2 with
 | refl _ => exact h1
 | step _ ha hd ih => exact .step ih ha hd
theorem Cn.left {t : aB} {c : List Int} {a b : Int} (h : Cn t c a b) : a ∉ c := by
 induction h with
 | refl h => exact h
 | step _ _ _ ih => exact ih
theorem Cn.right {t : aB} {c : List Int} {a b : Int} (h : Cn t c a b) : b ∉ c := by
 cases h with
 | refl h => exact h
 | step _ _ hd => exact hd
theorem Cn.symm {t : aB} {c : List Int} {a b : Int} (h : Cn t c a b) : Cn t c b a := by
 induction h with
 | refl h => exact .refl h
 | step h ha hd ih => exact (Cn.step (.refl hd) (ajb ha) h.right).trans ih
theorem Cn.ids {t : aB} (hv : Vt t) {c : List Int} {a b : Int} (h : Cn t c a b) (ha : a ∈ ids t) : b ∈ ids t := by
 cases h with
 | refl h => exact ha
 | step _ hd _ => exact yU hv hd
theorem Cn.stays {t : aB} {c : List Int} {S : Int → Prop} {a b : Int} (h : Cn t c a b) (ha : S a) (hs : ∀ x, S x → ∀ y, nv t x y = true → S y ∨ y ∈ c) : S b := by
 induction h with
 | refl _ => exact ha
 | step _ hd hc ih => exact (hs _ ih _ hd).resolve_right hc
open Classical in
noncomputable def yV (t : aB) (c : List Int) (r : Int) : List Int := (ids t).filter fun x => decide (Cn t c r x)
theorem ya {t : aB} (hv : Vt t) {c : List Int} {r x : Int} (hr : r ∈ ids t) : x ∈ yV t c r ↔ Cn t c r x := by
 unfold yV
 rw [List.mem_filter]
 simp only [decide_eq_true_eq]
 exact ⟨fun h => h.2, fun h => ⟨h.ids hv hr, h⟩⟩
theorem adh {t : aB} (hv : Vt t) (c : List Int) (r : Int) : (yV t c r).Pairwise (· < ·) := (agm hv).sublist List.filter_sublist
theorem yW {t : aB} (hv : Vt t) : (ids t).length ≤ 24 := by have := hv.nr; simpa [ids] using this
theorem aqE {t : aB} (hv : Vt t) (c : List Int) : ∀ (n : Nat) (r : Int) (out : List Int), out.Nodup → (∀ x ∈ out, x ∈ ids t) → r ∈ ids t → (ids t).length + 1 ≤ n + out.length →
  Ok (gD n r out c t.aK t.Links) (fun o => ∃ new, o = out ++ new ∧ o.Nodup ∧ (∀ x ∈ new, Cn t c r x) ∧ (r ∈ o ∨ r ∈ c) ∧ (∀ x ∈ new, ∀ y, nv t x y = true → y ∈ o ∨ y ∈ c)) := by
 intro n
 induction n with
 | zero => intro r out h1 h2 _ h3; have := sW h1 h2; omega
 | succ n ih =>
  intro r out h1 h2 hr h3
  unfold gD
  simp only [aeg, aO, jn]
  by_cases q1 : r ∈ out
  ·simp only [q1, decide_true, cond_true]
   exact Ok.s ⟨[], by simp, h1, by simp, .inl q1, by simp⟩
  ·simp only [q1, decide_false, cond_false]
   by_cases q2 : r ∈ c
   ·simp only [q2, decide_true, cond_true]
    exact Ok.s ⟨[], by simp, h1, by simp, by simp [q2], by simp⟩
   ·simp only [q2, decide_false, cond_false]
    have hol := sW h1 h2
    have := yW hv
    rw [dZ (by simp; omega), aO, show (aB.mk t.aK t.Links) = t from rfl, adg hv, aO]
    refine Ok.pq (fun p m => ∃ new, m = (out ++ [r]) ++ new ∧ m.Nodup ∧ (∀ x ∈ new, Cn t c r x) ∧ (∀ x ∈ p, x ∈ m ∨ x ∈ c) ∧ (∀ x ∈ new, ∀ y, nv t x y = true → y ∈ m ∨ y ∈ c)) ?_ _ ?_ ?_
    ·rintro p e rest m Z hL ⟨new, hm, hnd, hcn, hp, had⟩ hZ
     have vw : nv t r e = true := (jO hv).1 (by rw [hL]; simp)
     have hsub : ∀ x ∈ m, x ∈ ids t := by
      intro x hx
      rw [hm] at hx
      simp only [List.mem_append, List.mem_cons, List.not_mem_nil, or_false] at hx
      rcases hx with (hx | rfl) | hx
      ·exact h2 x hx
      ·exact hr
      ·exact (hcn x hx).ids hv hr
     refine Ok.bnd (ih e m hnd hsub (yU hv vw) (by rw [hm]; simp; omega)) ?_
     rintro o ⟨new2, ho, yb, yc, hoe, hoad⟩
     refine hZ _ ⟨new ++ new2, by rw [ho, hm]; simp, yb, ?_, ?_, ?_⟩
     ·intro x hx
      rcases List.mem_append.1 hx with hx | hx
      ·exact hcn x hx
      ·have := yc x hx
       exact (Cn.step (.refl q2) vw this.left).trans this
     ·intro x hx
      rcases List.mem_append.1 hx with hx | hx
      ·rcases hp x hx with h | h
       ·exact .inl (by rw [ho]; simp [h])
       ·exact .inr h
      ·simp only [List.mem_cons, List.not_mem_nil, or_false] at hx; subst hx; exact hoe
     ·intro x hx y hy
      rcases List.mem_append.1 hx with hx | hx
      ·rcases had x hx y hy with h | h
       ·exact .inl (by rw [ho]; simp [h])
       ·exact .inr h
      ·exact hoad x hx y hy
    ·refine ⟨[], by simp, ?_, by simp, by simp, by simp⟩
     rw [List.nodup_append]
     refine ⟨h1, by simp, ?_⟩
     intro a ha b hb
     simp only [List.mem_cons, List.not_mem_nil, or_false] at hb
     subst hb
     exact fun e => q1 (e ▸ ha)
    ·rintro m ⟨new, hm, hnd, hcn, hp, had⟩
     refine Ok.s ⟨r :: new, by rw [hm]; simp, hnd, ?_, .inl (by rw [hm]; simp), ?_⟩
     ·intro x hx
      rcases List.mem_cons.1 hx with rfl | hx
      ·exact .refl q2
      ·exact hcn x hx
     ·intro x hx y hy
      rcases List.mem_cons.1 hx with rfl | hx
      ·exact hp y ((jO hv).2 hy)
      ·exact had x hx y hy
theorem adL {t : aB} (hv : Vt t) {r : Int} (hr : r ∈ ids t) (c : List Int) : jK t r c = some (yV t c r) := by
 have := yW hv
 obtain ⟨o, h1, new, ho, hnd, hcn, hro, had⟩ := aqE hv c fuel r [] List.nodup_nil (by simp) hr (by unfold fuel; simp; omega)
 unfold jK
 rw [h1, aO]
 rw [List.nil_append] at ho
 subst ho
 have hlen := sW hnd fun x hx => (hcn x hx).ids hv hr
 rw [mb (by simp; omega)]
 congr 1
 refine x7 (adb hnd) (adh hv c r) fun x => ?_
 rw [abX, ya hv hr]
 refine ⟨hcn x, fun h => ?_⟩
 have hro := hro.resolve_right h.left
 exact h.stays (S := fun x => x ∈ o) hro had
theorem aqF {l : List Int} {n : Int} (hl : l.Pairwise (· < ·)) (hlen : l.length ≤ 1000000) : Ok (mR l n) (fun m => m.Pairwise (· < ·) ∧ ∀ x, x ∈ m ↔ x = n ∨ x ∈ l) := by
 unfold mR
 refine Ok.whl (fun a : Int => (0 ≤ a ∧ a ≤ l.length) ∧ ∀ x ∈ l.take a.toNat, x < n) (fun a => ((l.length : Int) - a).toNat) ⟨⟨by omega, by omega⟩, by simp⟩ (by omega) ?_
 rintro a Z ⟨⟨h0, h1⟩, hlt⟩ hZ
 have split : l.take a.toNat ++ l.drop a.toNat = l := List.take_append_drop _ _
 refine Ok.jn (fun v : Bool => (v = true → a < l.length ∧ ∀ x ∈ l.take (a + 1).toNat, x < n) ∧ (v = false → ∀ x ∈ l.drop a.toNat, n ≤ x)) (fun v hv => ?_) fun J hJ => ?_
 ·refine Ok.cs (fun h => ?_) fun h => ?_
  ·obtain ⟨q1, q2⟩ := hv.1 h
   rw [cC (by omega) (by omega)]
   exact hZ _ ⟨⟨by omega, by omega⟩, q2⟩ (by omega)
  ·have hge := hv.2 h
   refine Ok.jn (fun v : Bool => (v = true → n ∈ l) ∧ (v = false → ∀ x ∈ l.drop a.toNat, n < x)) (fun v hv => ?_) fun J2 hJ2 => ?_
   ·refine Ok.cs (fun h => Ok.s ⟨hl, fun x => ⟨.inr, ?_⟩⟩) fun h => ?_
    ·rintro (rfl | hx)
     ·exact hv.1 h
     ·exact hx
    ·have hgt := hv.2 h
     refine Ok.bnd (we ⟨by omega, by omega, by omega⟩) fun l1 e1 => ?_
     refine Ok.bnd (gr (by simp; omega)) fun l2 e2 => ?_
     refine Ok.bnd (gr (by simp at e2 ⊢; omega)) fun l3 e3 => ?_
     refine Ok.bnd (we ⟨by omega, by omega, by omega⟩) fun l4 e4 => ?_
     refine Ok.bnd (gr (by simp at e2 e3 ⊢; omega)) fun l5 e5 => ?_
     have f : l5 = l.take a.toNat ++ n :: l.drop a.toNat := by
      rw [e5.1, e4.1, e3.1, e2.1, e1.1]; simp
     refine Ok.s ?_
     rw [f]
     have hl' := hl
     rw [← split, List.pairwise_append] at hl'
     obtain ⟨p1, p2, p3⟩ := hl'
     refine ⟨?_, fun x => ?_⟩
     ·rw [List.pairwise_append, List.pairwise_cons]
      refine ⟨p1, ⟨fun y hy => hgt y hy, p2⟩, fun x hx y hy => ?_⟩
      rcases List.mem_cons.1 hy with rfl | hy
      ·exact hlt x hx
      ·exact p3 x hx y hy
     ·have : x ∈ l ↔ x ∈ l.take a.toNat ∨ x ∈ l.drop a.toNat := by rw [← List.mem_append, split]
      rw [this]; simp only [List.mem_append, List.mem_cons]
      constructor
      ·rintro (h | h | h) <;> simp [h]
      ·rintro (h | h | h) <;> simp [h]
   ·refine Ok.cs (fun hc => ?_) fun hc => hJ2 _ ⟨by simp, fun _ x hx => ?_⟩
    ·have hc : a < l.length := by simpa using hc
     refine Ok.bnd (kY h0 hc) fun e he => hJ2 _ ⟨fun h => ?_, fun h x hx => ?_⟩
     ·have : e = n := by simpa using h
      rw [← this]; exact he.1
     ·have hne : e ≠ n := by simpa using h
      have hd : l.drop a.toNat = e :: l.drop (a.toNat + 1) := by
       have hi : a.toNat < l.length := by omega
       rw [List.drop_eq_getElem_cons hi]
       have := he.2
       rw [List.getElem?_eq_getElem hi] at this
       injection this with this
       rw [this]
      have hen := hge e (by rw [hd]; simp)
      rw [hd] at hx
      rcases List.mem_cons.1 hx with rfl | hx
      ·omega
      ·have hp : (l.drop a.toNat).Pairwise (· < ·) := hl.sublist (List.drop_sublist _ _)
       rw [hd, List.pairwise_cons] at hp
       have := hp.1 x hx; omega
    ·have hc : (l.length : Int) ≤ a := by simpa using hc
     rw [List.drop_eq_nil_of_le (by omega)] at hx
     simp at hx
 ·refine Ok.cs (fun hc => ?_) fun hc => hJ _ ⟨by simp, fun _ x hx => ?_⟩
  ·have hc : a < l.length := by simpa using hc
   have hi : a.toNat < l.length := by omega
   refine Ok.bnd (kY h0 hc) fun e he => ?_
   have hev := he.2
   rw [List.getElem?_eq_getElem hi] at hev
   injection hev with hev
   have hd : l.drop a.toNat = e :: l.drop (a.toNat + 1) := by rw [List.drop_eq_getElem_cons hi, hev]
   refine hJ _ ⟨fun h => ⟨hc, fun x hx => ?_⟩, fun h x hx => ?_⟩
   ·have hen : e < n := by simpa using h
    rw [show (a + 1).toNat = a.toNat + 1 by omega, List.take_succ_eq_append_getElem hi, hev] at hx
    rcases List.mem_append.1 hx with hx | hx
    ·exact hlt x hx
    ·simp at hx; omega
   ·have hen : n ≤ e := by simpa using h
    rw [hd] at hx
    rcases List.mem_cons.1 hx with rfl | hx
    ·exact hen
    ·have hp : (l.drop a.toNat).Pairwise (· < ·) := hl.sublist (List.drop_sublist _ _)
     rw [hd, List.pairwise_cons] at hp
     have := hp.1 x hx; omega
  ·have hc : (l.length : Int) ≤ a := by simpa using hc
   rw [List.drop_eq_nil_of_le (by omega)] at hx
   simp at hx
theorem afl {t : aB} (hv : Vt t) {r : Int} (hr : r ∈ ids t) : mS t r = some (yV t [] r) := by
 refine Ok.eq ?_
 have hil := yW hv
 unfold mS
 refine Ok.whl (fun s : List Int × Int => (0 ≤ s.2 ∧ s.2 ≤ s.1.length) ∧ s.1.Nodup ∧ (∀ x ∈ s.1, Cn t [] r x) ∧ r ∈ s.1 ∧ (∀ x ∈ s.1.take s.2.toNat, ∀ y, nv t x y = true → y ∈ s.1))
  (fun s => ((25 : Int) - s.2).toNat) ⟨⟨by simp, by simp⟩, by simp, by intro x hx; simp at hx; subst hx; exact .refl (by simp), by simp, by simp⟩ (by simp only; omega) ?_
 rintro ⟨out, i⟩ Z ⟨⟨h0, h1⟩, hnd, hcn, hro, had⟩ hZ
 simp only at h0 h1 hnd hcn hro had
 have hsub : ∀ {l : List Int}, (∀ x ∈ l, Cn t [] r x) → l.Nodup → l.length ≤ 24 := fun {l} h hn => Nat.le_trans (sW hn fun x hx => (h x hx).ids hv hr) hil
 have hol := hsub hcn hnd
 refine Ok.cs (fun hc => ?_) fun hc => ?_
 ·have hc : i < out.length := by simpa using hc
  have hi : i.toNat < out.length := by omega
  refine Ok.bnd (kY h0 hc) fun e he => ?_
  have hev := he.2
  rw [List.getElem?_eq_getElem hi] at hev
  injection hev with hev
  rw [aak hv, aO]
  refine Ok.pq (fun p o => (∃ new, o = out ++ new) ∧ o.Nodup ∧ (∀ x ∈ o, Cn t [] r x) ∧ ∀ y ∈ p, y ∈ o) ?_ _ ⟨⟨[], by simp⟩, hnd, hcn, by simp⟩ ?_
  ·rintro p x rest o Z2 hL ⟨⟨new, ho⟩, yb, yc, hp⟩ hZ2
   have vw : nv t e x = true := (jO hv).1 (by rw [hL]; simp)
   have hcx : Cn t [] r x := .step (hcn e he.1) vw (by simp)
   have hlo := hsub yc yb
   simp only [jn, aef, aO]
   by_cases hx : x ∈ o
   ·simp only [hx, decide_true, Bool.not_true, cond_false]
    refine hZ2 _ ⟨⟨new, ho⟩, yb, yc, fun y hy => ?_⟩
    rcases List.mem_append.1 hy with hy | hy
    ·exact hp y hy
    ·simp at hy; subst hy; exact hx
   ·simp only [hx, decide_false, Bool.not_false, cond_true]
    rw [dZ (by simp; omega), aO]
    refine hZ2 _ ⟨⟨new ++ [x], by rw [ho]; simp⟩, ?_, fun y hy => ?_, fun y hy => ?_⟩
    ·rw [List.nodup_append]
     refine ⟨yb, by simp, fun a ha b hb => ?_⟩
     simp at hb; subst hb; exact fun e => hx (e ▸ ha)
    ·rcases List.mem_append.1 hy with hy | hy
     ·exact yc y hy
     ·simp at hy; subst hy; exact hcx
    ·rcases List.mem_append.1 hy with hy | hy
     ·exact List.mem_append_left _ (hp y hy)
     ·exact List.mem_append_right _ hy
  ·rintro o ⟨⟨new, ho⟩, yb, yc, hp⟩
   have hlo := hsub yc yb
   rw [cC (by omega) (by omega)]
   refine hZ _ ⟨⟨by simp only; omega, by simp only [ho, List.length_append]; omega⟩, yb, yc, by rw [ho]; simp [hro], ?_⟩ (by simp only; omega)
   intro x hx y hy
   simp only at hx ⊢
   rw [show (i + 1).toNat = i.toNat + 1 by omega, ho, List.take_append_of_le_length (by omega), List.take_succ_eq_append_getElem hi, hev] at hx
   rcases List.mem_append.1 hx with hx | hx
   ·rw [ho]; exact List.mem_append_left _ (had x hx y hy)
   ·simp at hx; subst hx
    exact hp y ((jO hv).2 hy)
 ·have hc : (out.length : Int) ≤ i := by simpa using hc
  rw [List.take_of_length_le (by omega)] at had
  refine Ok.pq (fun p m => m.Pairwise (· < ·) ∧ ∀ x, x ∈ m ↔ x ∈ p) ?_ _ ⟨by simp, by simp⟩ ?_
  ·rintro p x rest m Z2 hL ⟨hm1, hm2⟩ hZ2
   have hnm : m.Nodup := hm1.imp (fun h => by omega)
   have : m.length ≤ 24 := hsub (fun y hy => hcn y (by rw [hL]; exact List.mem_append_left _ ((hm2 y).1 hy))) hnm
   refine Ok.bnd (aqF hm1 (by omega)) fun m2 ⟨q1, q2⟩ => hZ2 _ ⟨q1, fun y => ?_⟩
   rw [q2, hm2]; simp [or_comm]
  ·rintro m ⟨hm1, hm2⟩
   refine Ok.s (x7 hm1 (adh hv [] r) fun x => ?_)
   rw [hm2, ya hv hr]
   exact ⟨hcn x, fun h => h.stays (S := fun x => x ∈ out) hro fun x hx y hy => .inl (had x hx y hy)⟩
end Go.Proofs.YtpmifmdidfgpdaaGreat

/- Plain: components, anu and cuts. No condition. -/
namespace Go.Proofs.YtpmifmdidfgpdaaGreat
set_option linter.all false
open Go
/-! ## connected -/
open Classical in
noncomputable def sr (t : aB) (a b : Int) : Bool := decide (mA t = 0) && hasB t a && hasB t b && decide (Cn t [] a b)
theorem adi {t : aB} (hv : Vt t) {c : List Int} {a b : Int} (ha : a ∈ ids t) : decide (b ∈ yV t c a) = @decide (Cn t c a b) (Classical.propDecidable _) := by
 rw [Bool.eq_iff_iff]; simp [ya hv ha]
theorem ach (t : aB) (a b : Int) : gK t a b = some (sr t a b) := by
 unfold gK sr
 simp only [aeh, aO]
 by_cases h : mA t = 0
 ·have hv := oe.1 h
  simp only [h, decide_true, Bool.true_and]
  cases ha : hasB t a
  ·rfl
  ·cases hb : hasB t b
   ·rfl
   ·simp only [cond_true, afl hv (sj.2 ha), aO, aef, adi hv (sj.2 ha), Bool.true_and]
 ·simp [h]
theorem aci (t : aB) (a b : Int) (hl : t.aK.length ≤ 1000000) : gE t a b = some (sr t a b) := by
 unfold gE sr
 simp only [aei _ _ hl, aO]
 by_cases h : mA t = 0
 ·have hv := oe.1 h
  simp only [h, decide_true, Bool.true_and]
  cases ha : hasB t a
  ·rfl
  ·cases hb : hasB t b
   ·rfl
   ·simp only [cond_true, adL hv (sj.2 ha), aO, aeg, adi hv (sj.2 ha), Bool.true_and]
 ·simp [h]
/-! ## components -/
/-! ## anu -/
/-! ## cuts -/
end Go.Proofs.YtpmifmdidfgpdaaGreat
