/- Several texts in one. No condition but those that stand in each. -/
import Derived.Test.YtmfehenfoepkfaaBA
import Derived.Test.YtmfehenfoepkfaaDA
/- Plain facts on the words in which the program is written l8. No program in sight. No condition. -/
namespace Go.Proofs.Ytmfehenfoepkfaa
set_option linter.all false
open Go
theorem aL {α β : Type} (a : α) (k : α → Option β) : bnd (some a) k = k a := rfl
theorem anI {β : Type} {c : Bool} {k : Option β} (h : c = true) : chk c k = k := by subst h; rfl
theorem lX {α : Type} {p : Prop} [Decidable p] {x y : α} : (bif decide p then x else y) = if p then x else y := by
 by_cases h : p <;> simp [h]
/-- a loop along a list comes to what 'f' ajW -/
theorem th {α σ β : Type} {B : Int → α → (σ → Option β) → σ → Option β} {K : σ → Option β} (f : List α → σ → Option β) (hn : ∀ s, K s = f [] s)
  (hc : ∀ (j : Int) x r s Z, (∀ s', Z s' = f r s') → B j x Z s = f (x :: r) s) : ∀ (l : List α) (j : Nat) (s : σ), bn l j B K s = f l s
 | [], _, s => hn s
 | x :: r, j, s => hc j x r s _ fun s' => th f hn hc r (j + 1) s'
/-- the same, with what was ac1 -/
theorem aar {α σ β : Type} {B : Int → α → (σ → Option β) → σ → Option β} {K : σ → Option β} {L : List α} (f : List α → List α → σ → Option β) (hn : ∀ s, K s = f L [] s)
  (hc : ∀ p x r s Z, p ++ x :: r = L → (∀ s', Z s' = f (p ++ [x]) r s') → B (p.length : Int) x Z s = f p (x :: r) s) : ∀ (l p : List α) (s : σ), p ++ l = L → bn l p.length B K s = f p l s
 | [], p, s, h => by rw [List.append_nil] at h; subst h; exact hn s
 | x :: r, p, s, h => hc p x r s _ h fun s' => by
   have := aar (B := B) (K := K) f hn hc r (p ++ [x]) s' (by simpa using h)
   rw [List.length_append] at this
   exact this
/-- what is so of a result -/
def Ok {β : Type} (o : Option β) (Q : β → Prop) : Prop := ∃ r, o = some r ∧ Q r
theorem Ok.s {β : Type} {Q : β → Prop} {r : β} (h : Q r) : Ok (some r) Q := ⟨r, rfl, h⟩
theorem Ok.bnd {α β : Type} {o : Option α} {k : α → Option β} {P : α → Prop} {Q : β → Prop} (h : Ok o P) (hk : ∀ a, P a → Ok (k a) Q) : Ok (bnd o k) Q := by
 obtain ⟨a, rfl, ha⟩ := h; exact hk a ha
theorem Ok.cs {β : Type} {c : Bool} {x y : Option β} {Q : β → Prop} (h1 : c = true → Ok x Q) (h2 : c = false → Ok y Q) : Ok (bif c then x else y) Q := by
 cases c
 ·exact h2 rfl
 ·exact h1 rfl
theorem Ok.chk {β : Type} {c : Bool} {k : Option β} {Q : β → Prop} (h : c = true) (hk : Ok k Q) : Ok (chk c k) Q := by subst h; exact hk
theorem Ok.jn {σ β : Type} {k : σ → Option β} {t : (σ → Option β) → Option β} {Q : β → Prop} (R : σ → Prop) (h1 : ∀ s, R s → Ok (k s) Q) (h2 : ∀ J, (∀ s, R s → Ok (J s) Q) → Ok (t J) Q) : Ok (jn k t) Q := h2 k h1
theorem Ok.mono {β : Type} {o : Option β} {Q Q' : β → Prop} (h : Ok o Q) (hq : ∀ r, Q r → Q' r) : Ok o Q' := by
 obtain ⟨r, h1, h2⟩ := h; exact ⟨r, h1, hq r h2⟩
theorem Ok.bn {α σ β : Type} {B : Int → α → (σ → Option β) → σ → Option β} {K : σ → Option β} {Q : β → Prop} (I : Nat → σ → Prop)
  (hc : ∀ (j : Nat) x s Z, I j s → (∀ s', I (j + 1) s' → Ok (Z s') Q) → Ok (B (j : Int) x Z s) Q) : ∀ (l : List α) (j : Nat) (s : σ), I j s → (∀ s, I (j + l.length) s → Ok (K s) Q) → Ok (bn l j B K s) Q
 | [], j, s, h, hn => hn s (by simpa using h)
 | x :: r, j, s, h, hn => hc j x s _ h fun s' h' => Ok.bn I hc r (j + 1) s' h' fun s hs => hn s (by rwa [List.length_cons, ← Nat.add_assoc, Nat.add_right_comm])
/-- the same, the elements known -/
theorem Ok.forM {α σ β : Type} {B : Int → α → (σ → Option β) → σ → Option β} {K : σ → Option β} {Q : β → Prop} (I : Nat → σ → Prop) {L : List α}
  (hc : ∀ (j : Nat) x s Z, j < L.length → x ∈ L → I j s → (∀ s', I (j + 1) s' → Ok (Z s') Q) → Ok (B (j : Int) x Z s) Q) (s : σ) (h : I 0 s) (hn : ∀ s, I L.length s → Ok (K s) Q) : Ok (Go.Proofs.Ytmfehenfoepkfaa.bn L 0 B K s) Q := by
 have key : ∀ (l : List α) (j : Nat) (s : σ), (∀ x ∈ l, x ∈ L) → j + l.length = L.length → I j s → Ok (Go.Proofs.Ytmfehenfoepkfaa.bn l j B K s) Q := by
  intro l
  induction l with
  | nil => intro j s _ hj h; exact hn s (by simpa [← hj] using h)
  | cons x r ih =>
   intro j s hm hj h
   simp only [List.length_cons] at hj
   exact hc j x s _ (by omega) (hm x (by simp)) h fun s' h' => ih (j + 1) s' (fun y hy => hm y (by simp [hy])) (by omega) h'
 exact key L 0 s (fun _ h => h) (by simp) h
theorem Ok.jh {σ β : Type} {B : Int → (σ → Option β) → σ → Option β} {K : Int → σ → Option β} {Q : β → Prop} (I : Int → σ → Prop) (lo hi : Int)
  (hc : ∀ (i : Int) s Z, lo ≤ i → i < hi → I i s → (∀ s', I (i + 1) s' → Ok (Z s') Q) → Ok (B i Z s) Q) (hn : ∀ i s, lo ≤ i → (lo ≤ hi → i = hi) → I i s → Ok (K i s) Q) : ∀ (n : Nat) (i : Int) (s : σ), n = (hi - i).toNat → lo ≤ i → (lo ≤ hi → i ≤ hi) → I i s → Ok (jh n i B K s) Q
 | 0, i, s, hn0, h1, h2, h => hn i s h1 (fun hh => by have := h2 hh; omega) h
 | n + 1, i, s, hn0, h1, h2, h => hc i s _ h1 (by omega) h fun s' h' => Ok.jh I lo hi hc hn n (i + 1) s' (by omega) (by omega) (fun _ => by omega) h'
theorem Ok.iter {σ β : Type} {F : (σ → Option β) → σ → Option β} {Q : β → Prop} (I : σ → Prop) (μ : σ → Nat)
  (hc : ∀ s Z, I s → (∀ s', I s' → μ s' < μ s → Ok (Z s') Q) → Ok (F Z s) Q) : ∀ (n : Nat) (s : σ), I s → μ s < n → Ok (iter F n s) Q
 | 0, s, _, h => by omega
 | n + 1, s, h, hm => hc s _ h fun s' h' hm' => Ok.iter I μ hc n s' h' (by omega)
theorem Ok.whl {σ β : Type} {F : (σ → Option β) → σ → Option β} {Q : β → Prop} (I : σ → Prop) (μ : σ → Nat) {s : σ} (h : I s) (hm : μ s < 1099511627776)
  (hc : ∀ s Z, I s → (∀ s', I s' → μ s' < μ s → Ok (Z s') Q) → Ok (F Z s) Q) : Ok (whl F s) Q := Ok.iter I μ hc fuel s h hm
theorem Ok.get {β : Type} {o : Option β} {Q : β → Prop} (h : Ok o Q) : ∃ r, o = some r ∧ Q r := h
theorem Ok.eq {β : Type} {o : Option β} {r : β} (h : Ok o (fun x => x = r)) : o = some r := by obtain ⟨x, h1, rfl⟩ := h; exact h1
theorem aas {α : Type} (p : List α) (x : α) (r : List α) : elO (p ++ x :: r) (p.length : Int) = some x := by
 unfold elO; rw [if_pos (by omega)]; simp
theorem eY {α : Type} {l : List α} {i : Int} (h0 : 0 ≤ i) (h : i < l.length) : Ok (elO l i) (fun x => x ∈ l ∧ l[i.toNat]? = some x) := by
 unfold elO; rw [if_pos h0]
 have : i.toNat < l.length := by omega
 exact ⟨l[i.toNat], List.getElem?_eq_getElem this, List.getElem_mem this, List.getElem?_eq_getElem this⟩
theorem yL {α : Type} {l r : List α} (h : l.length + r.length ≤ 549755813888) : dV l r = some (l ++ r) := by unfold dV; rw [if_pos (by unfold cap; exact h)]
theorem iR {α : Type} {l r : List α} (h : l.length + r.length ≤ 549755813888) : Ok (dV l r) (fun m => m = l ++ r ∧ m.length = l.length + r.length) := ⟨_, yL h, rfl, by simp⟩
theorem qe {α : Type} {l : List α} {i : Int} {x : α} (h0 : 0 ≤ i) (h : i < l.length) : Ok (lF l i x) (fun m => m = l.set i.toNat x ∧ m.length = l.length) := by
 unfold lF; rw [if_pos ⟨h0, h⟩]; exact ⟨_, rfl, rfl, by simp⟩
theorem qf {α : Type} {l : List α} {a b : Int} (h : 0 ≤ a ∧ a ≤ b ∧ b ≤ l.length) : Ok (l9 l a b) (fun m => m = (l.take b.toNat).drop a.toNat ∧ (m.length : Int) = b - a) := by
 unfold l9; rw [if_pos h]; exact ⟨_, rfl, rfl, by simp; omega⟩
/-- the first loop: does any do -/
theorem dS {α σ β : Type} {B : Int → α → (σ → Option β) → σ → Option β} {K : σ → Option β} (p : α → Bool) (a : Option β) (hB : ∀ j x Z s, B j x Z s = bif p x then a else Z s) (l : List α) (j : Nat) (s : σ) : bn l j B K s = bif l.any p then a else K s :=
 th (f := fun l s => bif l.any p then a else K s) (fun s => rfl) (fun j x r s Z hZ => by
  rw [hB, hZ, List.any_cons]; cases p x <;> rfl) l j s
end Go.Proofs.Ytmfehenfoepkfaa

/- Plain: the two Checks of a xm yp to the same. No condition. -/
namespace Go.Proofs.Ytmfehenfoepkfaa
set_option linter.all false
open Go
def ud (n : Int) : Bool := decide (1 ≤ n) && decide (n ≤ 1000)
def hasB (t : aj) (r : Int) : Bool := t.ay.any fun x => decide (x.ID = r)
def vn (r : aN) : Bool := decide (r.ID < 1) || decide (99 < r.ID)
def rU (l : aV) : Bool := !ud l.o5 || !ud l.nQ || decide (l.j8 < 0) || decide (1000 < l.j8)
def ltL (a b : aV) : Bool := decide (a.A < b.A) || (decide (a.A = b.A) && decide (a.B < b.B))
def gf {α : Type} (p : α → α → Bool) : List α → Bool
 | a :: b :: r => p a b && gf p (b :: r)
 | _ => true
def kA (t : aj) : Bool := t.ay.any vn
def kB (t : aj) : Bool := gf (fun a b => decide (a.ID < b.ID)) t.ay
def kC (t : aj) : Bool := t.Links.any rU
def kD (t : aj) : Bool := t.Links.any fun l => !hasB t l.A || !hasB t l.B
def kE (t : aj) : Bool := t.Links.any fun l => decide (l.B ≤ l.A)
def kF (t : aj) : Bool := gf ltL t.Links
def iL (t : aj) : Int :=
 bif decide (24 < (t.ay.length : Int)) || decide (60 < (t.Links.length : Int)) then 3
 else bif kA t then 2 else bif kB t then (bif kC t then 2 else bif kD t then 4 else bif kE t then 8 else bif kF t then 0 else 25) else 25
/-- a loop bw looks at acd, behind the first -/
theorem xo {α σ β : Type} {B : Int → α → (σ → Option β) → σ → Option β} {K : σ → Option β} {L : List α} (p : α → α → Bool) (a : Option β)
  (hB : ∀ (j : Nat) x y r q s Z, L = q ++ y :: x :: r → j = q.length + 1 → B (j : Int) x Z s = bif p y x then Z s else a) : ∀ (r q : List α) (y : α) (s : σ), L = q ++ y :: r → bn r (q.length + 1) B K s = bif gf p (y :: r) then K s else a
 | [], q, y, s, h => rfl
 | x :: r, q, y, s, h => by
  simp only [bn]
  rw [hB (q.length + 1) x y r q s _ h rfl]
  have := xo (B := B) (K := K) p a hB r (q ++ [y]) x s (by simpa using h)
  simp only [List.length_append, List.length_cons, List.length_nil] at this
  rw [this]
  simp only [gf]
  cases p y x <;> rfl
theorem lq {α σ β : Type} {B : Int → α → (σ → Option β) → σ → Option β} {K : σ → Option β} {L : List α} (p : α → α → Bool) (a : Option β)
  (hB : ∀ (j : Nat) x y r q s Z, L = q ++ y :: x :: r → j = q.length + 1 → B (j : Int) x Z s = bif p y x then Z s else a) (s : σ) : bn (L.drop 1) 1 B K s = bif gf p L then K s else a := by
 cases L with
 | nil => rfl
 | cons y r => exact xo (B := B) (K := K) p a hB r [] y s rfl
theorem zk {α σ β : Type} {B : Int → α → (σ → Option β) → σ → Option β} {K : σ → Option β} {L : List α} (p : α → α → Bool) (a : Option β) (h0 : ∀ x Z s, B ((0 : Nat) : Int) x Z s = Z s)
  (hB : ∀ (j : Nat) x y r q s Z, L = q ++ y :: x :: r → j = q.length + 1 → B (j : Int) x Z s = bif p y x then Z s else a) (s : σ) : bn L 0 B K s = bif gf p L then K s else a := by
 cases L with
 | nil => rfl
 | cons y r =>
  simp only [bn]
  rw [h0]
  exact xo (B := B) (K := K) p a hB r [] y s rfl
/-- the place ahead -/
theorem kg {α : Type} {L : List α} {j : Nat} {y x : α} {r q : List α} (h : L = q ++ y :: x :: r) (hj : j = q.length + 1) (hL : (L.length : Int) ≤ 9223372036854775807) : elO L (w64 ((j : Int) - 1)) = some y := by
 have hl : q.length + 2 ≤ L.length := by rw [h]; simp
 rw [dA (by omega) (by omega), show (j : Int) - 1 = (q.length : Int) by omega, h, aas]
theorem ae7 (n : Int) : mK n = some (ud n) := rfl
theorem aa8 (t : aj) (r : Int) : j9 t r = some (hasB t r) := by
 unfold j9
 refine (dS (fun x : aN => decide (x.ID = r)) (some true) ?_ _ _ _).trans ?_
 ·intros; rfl
 ·unfold hasB; cases t.ay.any _ <;> rfl
theorem qg (t : aj) : fP t = some (iL t) := by
 unfold fP iL
 by_cases hlen : (decide (24 < (t.ay.length : Int)) || decide (60 < (t.Links.length : Int))) = true
 ·rw [hlen]; rfl
 rw [Bool.not_eq_true] at hlen
 rw [hlen]
 simp only [cond_false]
 simp only [Bool.or_eq_false_iff, decide_eq_false_iff_not] at hlen
 refine (dS vn (some 2) ?_ _ _ _).trans ?_
 ·intros; rfl
 unfold kA
 cases t.ay.any vn
 case true => rfl
 simp only [cond_false]
 refine (lq (fun a b : aN => decide (a.ID < b.ID)) (some 25) ?_ _).trans ?_
 ·intro j x y r q s Z h hj
  simp only [kg h hj (by omega), aL, lX]
  split <;> split <;> first | rfl | omega
 unfold kB
 cases gf _ t.ay
 case false => rfl
 simp only [cond_true]
 refine (dS rU (some 2) ?_ _ _ _).trans ?_
 ·intro j x Z s
  simp only [jn, ae7, aL, rU]
  cases ud x.o5 <;> cases ud x.nQ <;> simp [lX] <;> (try split) <;> (try split) <;> simp_all <;> omega
 unfold kC
 cases t.Links.any rU
 case true => rfl
 simp only [cond_false]
 refine (dS (fun l => !hasB t l.A || !hasB t l.B) (some 4) ?_ _ _ _).trans ?_
 ·intro j x Z s
  simp only [jn, aa8, aL]
  cases hasB t x.A <;> cases hasB t x.B <;> rfl
 unfold kD
 cases t.Links.any _
 case true => rfl
 simp only [cond_false]
 refine (dS (fun l => decide (l.B ≤ l.A)) (some 8) ?_ _ _ _).trans ?_
 ·intros; rfl
 unfold kE
 cases t.Links.any _
 case true => rfl
 simp only [cond_false]
 refine (lq ltL (some 25) ?_ _).trans ?_
 ·intro j x y r q s Z h hj
  have e : (decide (x.A < y.A) || (decide (y.A = x.A) && decide (x.B ≤ y.B))) = !ltL y x := by
   rw [Bool.eq_iff_iff]; simp [ltL]; omega
  simp only [kg h hj (by omega), aL]
  rw [e]
  cases ltL y x <;> rfl
 unfold kF
 cases gf ltL t.Links <;> rfl
/-! ## the acL -/
theorem xq {α σ : Type} {B : Int → α → (σ → Option Int) → σ → Option Int} {K : σ → Option Int} (p : α → Bool) (hB : ∀ j x Z s, B j x Z s = bif p x then some j else Z s) (hK : ∀ s, K s = some (-1)) : ∀ (l : List α) (j : Nat) (s : σ), ∃ r, bn l j B K s = some r ∧ decide (0 ≤ r) = l.any p
 | [], j, s => ⟨-1, hK s, rfl⟩
 | x :: r, j, s => by
  simp only [bn, hB, List.any_cons]
  cases p x
  ·simpa using xq p hB hK r (j + 1) s
  ·exact ⟨j, rfl, by simp⟩
theorem cfR (l : List aN) (f : aN → Option Bool) (p : aN → Bool) (hf : ∀ x, f x = some (p x)) : ct l f = some (l.any p) := by
 unfold ct cU
 obtain ⟨r, h1, h2⟩ := xq (B := fun (j1 : Int) (e1 : aN) (Z1 : Unit → Option Int) (sg : Unit) => match sg with | () => bnd (f e1) fun (ak : Bool) => bif ak then some (j1 : Int) else Z1 ()) (K := fun (sg : Unit) => match sg with | () => some (-1:Int)) p (fun j x Z s => by simp only [hf, aL]) (fun _ => rfl) l 0 ()
 simp only [h1, aL, h2]
theorem cfL (l : List aV) (f : aV → Option Bool) (p : aV → Bool) (hf : ∀ x, f x = some (p x)) : b8 l f = some (l.any p) := by
 unfold b8 dF
 obtain ⟨r, h1, h2⟩ := xq (B := fun (j1 : Int) (e1 : aV) (Z1 : Unit → Option Int) (sg : Unit) => match sg with | () => bnd (f e1) fun (ak : Bool) => bif ak then some (j1 : Int) else Z1 ()) (K := fun (sg : Unit) => match sg with | () => some (-1:Int)) p (fun j x Z s => by simp only [hf, aL]) (fun _ => rfl) l 0 ()
 simp only [h1, aL, h2]
def dO (x y : Int) : Int := if x < y then -1 else if y < x then 1 else 0
theorem yM (x y : Int) : dY x y = some (dO x y) := by
 unfold dY fH dO
 simp only [aL, decide_true, Bool.not_true, cond_false, lX]
 split <;> (try split) <;> rfl
theorem v7 {x y : Int} : dO x y < 0 ↔ x < y := by unfold dO; split <;> (try split) <;> omega
theorem jb {x y : Int} : dO x y = 0 ↔ x = y := by unfold dO; split <;> (try split) <;> omega
def orI : List Int → Int
 | [] => 0
 | x :: r => if x = 0 then orI r else x
theorem aat (l : List Int) : ji l = some (orI l) := by
 unfold ji
 refine (th (f := fun l _ => some (orI l)) ?_ ?_ _ _ _)
 ·intros; rfl
 ·intro j x r s Z hZ
  simp only [orI, hZ]
  by_cases h : x = 0 <;> simp [h]
def jG (a b : aV) : Int := orI [dO a.A b.A, dO a.B b.B]
theorem wG (a b : aV) : gi a b = some (jG a b) := by
 unfold gi; simp only [yM, aL, aat]; rfl
theorem aau (r : aN) (id : Int) : iE r id = some (dO r.ID id) := by
 unfold iE; simp only [yM, aL]
theorem v8 {a b : aV} : jG a b < 0 ↔ ltL a b = true := by
 have : jG a b < 0 ↔ a.A < b.A ∨ (a.A = b.A ∧ a.B < b.B) := by
  simp only [jG, orI]
  split
  ·rename_i h
   rw [jb] at h
   split
   ·rename_i h2; rw [jb] at h2; omega
   ·rw [v7]; omega
  ·rename_i h
   rw [jb] at h
   rw [v7]; omega
 rw [this]; simp [ltL]
theorem we {a b : aV} : jG a b = 0 ↔ a.A = b.A ∧ a.B = b.B := by
 simp only [jG, orI]
 split
 ·rename_i h
  rw [jb] at h
  split
  ·rename_i h2; rw [jb] at h2; omega
  ·rename_i h2; rw [jb] at h2 ⊢; omega
 ·rename_i h
  rw [jb] at h ⊢; omega
/-! the binary search -/
def bsG {α : Type} [Inhabited α] (f : α → Int) (l : List α) (i j : Nat) : Nat :=
 if h : i < j then if f (el l ((i + j) / 2 : Nat)) < 0 then bsG f l ((i + j) / 2 + 1) j else bsG f l i ((i + j) / 2) else i
 termination_by j - i
 decreasing_by all_goals omega
def bsR {α : Type} [Inhabited α] (f : α → Int) (l : List α) : Nat := bsG f l 0 l.length
def bsT {α : Type} [Inhabited α] (f : α → Int) (l : List α) : Bool := decide (bsR f l < l.length) && decide (f (el l (bsR f l)) = 0)
theorem ac2 {α : Type} [Inhabited α] {f : α → Int} {l : List α} {i j : Nat} (h : i < j) (hf : f (el l ((i + j) / 2 : Nat)) < 0) : bsG f l i j = bsG f l ((i + j) / 2 + 1) j := by
 rw [bsG, dif_pos h, if_pos hf]
theorem ac3 {α : Type} [Inhabited α] {f : α → Int} {l : List α} {i j : Nat} (h : i < j) (hf : ¬ f (el l ((i + j) / 2 : Nat)) < 0) : bsG f l i j = bsG f l i ((i + j) / 2) := by
 rw [bsG, dif_pos h, if_neg hf]
theorem yN {α : Type} [Inhabited α] {f : α → Int} {l : List α} {i j : Nat} (h : j ≤ i) : bsG f l i j = i := by
 rw [bsG, dif_neg (by omega)]
theorem vo {α : Type} [Inhabited α] {l : List α} {i : Nat} (h : i < l.length) : el l i = l[i] := by
 simp [el, List.getD_eq_getElem?_getD, h]
theorem ac4 {α : Type} [Inhabited α] {l : List α} {i : Nat} (h : i < l.length) : el l i ∈ l := by
 rw [vo h]; exact List.getElem_mem h
theorem qh {α : Type} [Inhabited α] {l : List α} {i : Nat} (h : i < l.length) : elO l (i : Int) = some (el l i) := by
 unfold elO; rw [if_pos (by omega), vo h]; simp [h]
theorem yO {i j : Nat} (h : i + j ≤ 4611686018427387904) : w64 (Int.fdiv (IntKind.wrap .u64 (w64 ((i : Int) + (j : Int)))) (2 ^ min (1:Int).toNat 64)) = (((i + j) / 2 : Nat) : Int) := by
 have e1 : w64 ((i : Int) + (j : Int)) = ((i + j : Nat) : Int) := by rw [dA (by omega) (by omega)]; simp
 have e2 : IntKind.wrap .u64 ((i + j : Nat) : Int) = ((i + j : Nat) : Int) := agk (by omega) (by omega)
 rw [e1, e2]
 have e3 : (2 : Int) ^ min (1:Int).toNat 64 = 2 := rfl
 rw [e3, Int.fdiv_eq_ediv_of_nonneg _ (by omega)]
 rw [dA (by omega) (by omega)]; simp
theorem yP {α : Type} [Inhabited α] {F : ((Int × Int) → Option (Int × Bool)) → (Int × Int) → Option (Int × Bool)} (l : List α) (f : α → Int) (hl : l.length ≤ 1000000)
  (hF : ∀ (i j : Nat) Z, j ≤ l.length → F Z ((i : Int), (j : Int)) = if h : i < j then (if f (el l ((i + j) / 2 : Nat)) < 0 then Z ((((i + j) / 2 + 1 : Nat) : Int), (j : Int)) else Z ((i : Int), (((i + j) / 2 : Nat) : Int))) else some ((i : Int), decide (i < l.length) && decide (f (el l i) = 0))) :
  whl F ((0 : Int), (l.length : Int)) = some ((bsR f l : Int), bsT f l) := by
 refine Ok.eq (Ok.whl (I := fun s => ∃ i j : Nat, s = ((i : Int), (j : Int)) ∧ i ≤ j ∧ j ≤ l.length ∧ bsG f l i j = bsR f l) (μ := fun s => (s.2 - s.1).toNat) ⟨0, l.length, rfl, by omega, by omega, rfl⟩ ?_ ?_)
 ·show ((l.length : Int) - 0).toNat < _; omega
 ·rintro s Z ⟨i, j, rfl, h1, h2, h3⟩ hz
  rw [hF i j Z h2]
  split
  ·rename_i hij
   split
   ·rename_i hf
    exact hz _ ⟨_, _, rfl, by omega, h2, by rw [← h3, ac2 hij hf]⟩ (by show ((j : Int) - _).toNat < ((j : Int) - i).toNat; omega)
   ·rename_i hf
    exact hz _ ⟨_, _, rfl, by omega, by omega, by rw [← h3, ac3 hij hf]⟩ (by show ((((i + j) / 2 : Nat) : Int) - i).toNat < ((j : Int) - i).toNat; omega)
  ·rename_i hij
   have : bsR f l = i := by rw [← h3, yN (by omega)]
   exact ⟨_, rfl, by simp only [bsT, this]⟩
theorem alx (l : List aN) (x : Int) (c : aN → Int → Option Int) (f : aN → Int) (hl : l.length ≤ 1000000) (hc : ∀ r, c r x = some (f r)) : bQ l x c = some ((bsR f l : Int), bsT f l) := by
 unfold bQ
 refine yP l f hl fun i j Z hj => ?_
 by_cases hij : i < j
 ·rw [dif_pos hij]
  simp only [yO (i := i) (j := j) (by omega), qh (show (i + j) / 2 < l.length by omega), aL, hc, lX]
  rw [if_pos (by omega), dA (by omega) (by omega)]
  rfl
 ·rw [dif_neg hij]
  simp only [lX]
  rw [if_neg (by omega)]
  by_cases hi : i < l.length
  ·rw [if_pos (by omega), qh hi]; simp only [aL, hc]; simp [hi]
  ·rw [if_neg (by omega)]; simp [hi]
theorem bsLk (l : List aV) (x : aV) (c : aV → aV → Option Int) (f : aV → Int) (hl : l.length ≤ 1000000) (hc : ∀ r, c r x = some (f r)) : b9 l x c = some ((bsR f l : Int), bsT f l) := by
 unfold b9
 refine yP l f hl fun i j Z hj => ?_
 by_cases hij : i < j
 ·rw [dif_pos hij]
  simp only [yO (i := i) (j := j) (by omega), qh (show (i + j) / 2 < l.length by omega), aL, hc, lX]
  rw [if_pos (by omega), dA (by omega) (by omega)]
  rfl
 ·rw [dif_neg hij]
  simp only [lX]
  rw [if_neg (by omega)]
  by_cases hi : i < l.length
  ·rw [if_pos (by omega), qh hi]; simp only [aL, hc]; simp [hi]
  ·rw [if_neg (by omega)]; simp [hi]
theorem ae8 {α : Type} [Inhabited α] {f : α → Int} {l : List α} (hm : ∀ a b : Nat, a ≤ b → b < l.length → f (el l a) ≤ f (el l b)) : ∀ (n i j : Nat), j - i ≤ n → i ≤ j → j ≤ l.length → (∀ m : Nat, m < i → f (el l m) < 0) → (∀ m : Nat, j ≤ m → m < l.length → 0 ≤ f (el l m)) →
  bsG f l i j ≤ l.length ∧ (∀ m : Nat, m < bsG f l i j → f (el l m) < 0) ∧ (∀ m : Nat, bsG f l i j ≤ m → m < l.length → 0 ≤ f (el l m)) := by
 intro n
 induction n with
 | zero =>
  intro i j hn hij hj h1 h2
  rw [yN (by omega)]
  exact ⟨by omega, h1, fun m hm' => h2 m (by omega)⟩
 | succ n ih =>
  intro i j hn hij hj h1 h2
  by_cases h : i < j
  ·by_cases hf : f (el l ((i + j) / 2 : Nat)) < 0
   ·rw [ac2 h hf]
    refine ih _ _ (by omega) (by omega) hj (fun m hm' => ?_) h2
    have := hm m ((i + j) / 2) (by omega) (by omega)
    omega
   ·rw [ac3 h hf]
    refine ih _ _ (by omega) (by omega) (by omega) h1 (fun m hm' hml => ?_)
    have := hm ((i + j) / 2) m hm' hml
    omega
  ·rw [yN (by omega)]
   exact ⟨by omega, h1, fun m hm' => h2 m (by omega)⟩
theorem ae9 {α : Type} [Inhabited α] {f : α → Int} {l : List α} (hm : ∀ a b : Nat, a ≤ b → b < l.length → f (el l a) ≤ f (el l b)) :
  bsR f l ≤ l.length ∧ (∀ m : Nat, m < bsR f l → f (el l m) < 0) ∧ (∀ m : Nat, bsR f l ≤ m → m < l.length → 0 ≤ f (el l m)) :=
 ae8 hm l.length 0 l.length (by omega) (by omega) (by omega) (fun m h => by omega) (fun m h1 h2 => by omega)
theorem yQ {α : Type} [Inhabited α] {f : α → Int} {l : List α} (hm : ∀ a b : Nat, a ≤ b → b < l.length → f (el l a) ≤ f (el l b)) : bsT f l = true ↔ ∃ x ∈ l, f x = 0 := by
 obtain ⟨h1, h2, h3⟩ := ae9 hm
 simp only [bsT, Bool.and_eq_true, decide_eq_true_eq]
 constructor
 ·rintro ⟨q1, q2⟩
  exact ⟨_, ac4 q1, q2⟩
 ·rintro ⟨x, hx, hf⟩
  obtain ⟨m, hm1, rfl⟩ := List.getElem_of_mem hx
  rw [← vo hm1] at hf
  have hle : bsR f l ≤ m := by
   by_cases q : m < bsR f l
   ·have := h2 m q; omega
   ·omega
  have hlt : bsR f l < l.length := by omega
  have := h3 _ (Nat.le_refl _) hlt
  have := hm _ _ hle hm1
  exact ⟨hlt, by omega⟩
theorem nZ {α : Type} [Inhabited α] {f : α → Int} {l : List α} (h : l.Pairwise (fun a b => f a ≤ f b)) : ∀ a b : Nat, a ≤ b → b < l.length → f (el l a) ≤ f (el l b) := by
 intro a b hab hb
 rcases Nat.lt_or_eq_of_le hab with hab | rfl
 ·have := List.pairwise_iff_getElem.1 h a b (by omega) hb hab
  rwa [vo (by omega), vo hb]
 ·exact Int.le_refl _
theorem mT {α : Type} {p : α → α → Bool} (ht : ∀ a b c, p a b = true → p b c = true → p a c = true) : ∀ {l : List α}, gf p l = true → l.Pairwise (fun a b => p a b = true)
 | [], _ => List.Pairwise.nil
 | [x], _ => by simp
 | a :: b :: r, h => by
  simp only [gf, Bool.and_eq_true] at h
  have ih := mT ht h.2
  rw [List.pairwise_cons]
  refine ⟨fun z hz => ?_, ih⟩
  rcases List.mem_cons.1 hz with rfl | hz
  ·exact h.1
  ·exact ht _ _ _ h.1 ((List.pairwise_cons.1 ih).1 z hz)
theorem jo {α : Type} {p : α → α → Bool} : ∀ {l : List α}, l.Pairwise (fun a b => p a b = true) → gf p l = true
 | [], _ => rfl
 | [x], _ => rfl
 | a :: b :: r, h => by
  rw [List.pairwise_cons] at h
  simp only [gf, Bool.and_eq_true]
  exact ⟨h.1 b (by simp), jo h.2⟩
theorem ac5 {t : aj} (h : kB t = true) : t.ay.Pairwise (fun a b => a.ID < b.ID) := by
 have := mT (p := fun a b : aN => decide (a.ID < b.ID)) (fun a b c h1 h2 => by simp at h1 h2 ⊢; omega) h
 exact this.imp (fun h => by simpa using h)
theorem aik {t : aj} (h : kB t = true) (id : Int) : ∀ a b : Nat, a ≤ b → b < t.ay.length → dO (el t.ay a).ID id ≤ dO (el t.ay b).ID id :=
 nZ (f := fun r : aN => dO r.ID id) ((ac5 h).imp (fun {a b} h => by unfold dO; split <;> (try split) <;> (try split) <;> (try split) <;> omega))
def afa (t : aj) (id : Int) : Bool := !bsT (fun r => dO r.ID id) t.ay
theorem aa9 {t : aj} (h : kB t = true) (id : Int) : afa t id = !hasB t id := by
 simp only [afa, hasB]
 congr 1
 rw [Bool.eq_iff_iff, yQ (aik h id)]
 simp [jb]
theorem vp (t : aj) : fU t = some (iL t) := by
 unfold fU iL
 by_cases hlen : (decide (24 < (t.ay.length : Int)) || decide (60 < (t.Links.length : Int))) = true
 ·rw [hlen]; rfl
 rw [Bool.not_eq_true] at hlen
 rw [hlen]
 simp only [cond_false]
 simp only [Bool.or_eq_false_iff, decide_eq_false_iff_not] at hlen
 rw [cfR t.ay _ vn (fun x => by simp only [jN, gI, aL, vn]; congr 1; rw [Bool.eq_iff_iff]; simp)]
 simp only [aL]
 unfold kA
 cases t.ay.any vn
 case true => rfl
 simp only [cond_false]
 refine (zk (fun a b : aN => decide (a.ID < b.ID)) (some 25) ?_ ?_ _).trans ?_
 ·intros; rfl
 ·intro j x y r q s Z h hj
  simp only [jn, kg h hj (by omega), aL, lX]
  rw [if_pos (by omega)]
  split <;> split <;> first | rfl | omega
 cases hB : kB t
 case false => unfold kB at hB; rw [hB]; rfl
 have hB' := hB
 unfold kB at hB'
 rw [hB']
 simp only [cond_true]
 rw [cfL t.Links ir rU (fun x => by
  simp only [ir, gI, aL, rU, ud]
  simp only [lX, Bool.not_and, Bool.cond_eq_ite, Bool.or_eq_true, Bool.not_eq_true', decide_eq_false_iff_not]
  split
  ·congr 1; symm; rw [Bool.eq_iff_iff]; simp; omega
  ·split
   ·congr 1; symm; rw [Bool.eq_iff_iff]; simp; omega
   ·congr 1; rw [Bool.eq_iff_iff]; simp; omega)]
 simp only [aL]
 unfold kC
 cases t.Links.any rU
 case true => rfl
 simp only [cond_false]
 have hu : ∀ id, gj id t = some (!hasB t id) := fun id => by
  unfold gj
  rw [alx t.ay id _ (fun r => dO r.ID id) (by omega) (fun r => aau r id)]
  simp only [aL]
  rw [← aa9 hB]; rfl
 rw [cfL t.Links _ (fun l => !hasB t l.A || !hasB t l.B) (fun x => by
  simp only [jO, hu, aL]
  cases hasB t x.A <;> rfl)]
 simp only [aL]
 unfold kD
 cases t.Links.any _
 case true => rfl
 simp only [cond_false]
 rw [cfL t.Links jP (fun l => decide (l.B ≤ l.A)) (fun x => rfl)]
 simp only [aL]
 unfold kE
 cases t.Links.any _
 case true => rfl
 simp only [cond_false]
 refine (zk ltL (some 25) ?_ ?_ _).trans ?_
 ·intros; rfl
 ·intro j x y r q s Z h hj
  simp only [jn, kg h hj (by omega), aL, wG, lX]
  rw [if_pos (by omega)]
  cases hlt : ltL y x
  ·have : ¬ jG y x < 0 := by rw [v8, hlt]; simp
   rw [if_pos (by omega)]; rfl
  ·have := v8.2 hlt
   rw [if_neg (by omega)]; rfl
 unfold kF
 cases gf ltL t.Links <;> rfl
end Go.Proofs.Ytmfehenfoepkfaa

/- Plain: what the tape's readers give. No condition. -/
namespace Go.Proofs.Ytmfehenfoepkfaa
set_option linter.all false
open Go
end Go.Proofs.Ytmfehenfoepkfaa

/- Plain: valid ue, what is left yE a failure, and what is looked up. No condition. -/
namespace Go.Proofs.Ytmfehenfoepkfaa
set_option linter.all false
open Go
/-! ## lists -/
theorem ail {α : Type} [DecidableEq α] {l : List α} {v : α} : l.any (fun x => decide (x = v)) = decide (v ∈ l) := by
 rw [Bool.eq_iff_iff]; simp
theorem ace (a b : bq) : rL a b = true ↔ a = b := by
 cases a; cases b; simp [rL]
/-- a loop bw keeps some -/
theorem sD {α γ β : Type} {B : Int → α → (List γ → Option β) → List γ → Option β} {K : List γ → Option β} (p : α → Bool) (f : α → γ) :
  ∀ (l : List α) (j : Nat) (s : List γ), (∀ (j : Nat) x Z s, x ∈ l → s.length < 1000000 → B j x Z s = bif p x then Z (s ++ [f x]) else Z s) → l.length + s.length ≤ 1000000 → bn l j B K s = K (s ++ (l.filter p).map f)
 | [], j, s, _, _ => by simp [bn]
 | x :: r, j, s, hB, h => by
  simp only [List.length_cons] at h
  simp only [bn]
  rw [hB j x _ s (by simp) (by omega)]
  have hB' : ∀ (j : Nat) y Z s, y ∈ r → s.length < 1000000 → B j y Z s = bif p y then Z (s ++ [f y]) else Z s := fun j y Z s hy => hB j y Z s (by simp [hy])
  cases hp : p x
  ·rw [cond_false, sD p f r (j + 1) s hB' (by omega), List.filter_cons_of_neg (by simp [hp])]
  ·rw [cond_true, sD p f r (j + 1) (s ++ [f x]) hB' (by simp; omega), List.filter_cons_of_pos hp]
   simp
theorem uf {α : Type} {s : List α} {x : α} (h : s.length < 1000000) : dV s [x] = some (s ++ [x]) := yL (by simp; omega)
/-- aey ascending lists with the same members are the same -/
theorem vq {a b : List Int} (ha : a.Pairwise (· < ·)) (hb : b.Pairwise (· < ·)) (h : ∀ x, x ∈ a ↔ x ∈ b) : a = b := by
 induction a generalizing b with
 | nil =>
  cases b with
  | nil => rfl
  | cons y b => exact absurd ((h y).2 (by simp)) (by simp)
 | cons x a ih =>
  cases b with
  | nil => exact absurd ((h x).1 (by simp)) (by simp)
  | cons y b =>
   rw [List.pairwise_cons] at ha hb
   have hxy : x = y := by
    have h1 := (h x).1 (by simp)
    have h2 := (h y).2 (by simp)
    rw [List.mem_cons] at h1 h2
    rcases h1 with h1 | h1
    ·exact h1
    ·rcases h2 with h2 | h2
     ·exact h2.symm
     ·have := hb.1 _ h1; have := ha.1 _ h2; omega
   subst hxy
   congr 1
   refine ih ha.2 hb.2 fun z => ?_
   have := h z
   simp only [List.mem_cons] at this
   constructor
   ·intro hz
    rcases this.1 (.inr hz) with q | q
    ·subst q; have := ha.1 _ hz; omega
    ·exact q
   ·intro hz
    rcases this.2 (.inr hz) with q | q
    ·subst q; have := hb.1 _ hz; omega
    ·exact q
theorem xu {l : List Int} (h : l.Nodup) : (gA l).Pairwise (· < ·) := by
 have h1 := rH l
 have h2 : (gA l).Nodup := (oV l).nodup_iff.2 h
 have := h1.and h2
 exact this.imp (fun ⟨a, b⟩ => by omega)
theorem vr {l : List Int} {x : Int} : x ∈ gA l ↔ x ∈ l := (oV l).mem_iff
/-! ## valid ue -/
structure Vt (t : aj) : Prop where
 nr : t.ay.length ≤ 24
 nl : t.Links.length ≤ 60
 idr : ∀ r ∈ t.ay, 1 ≤ r.ID ∧ r.ID ≤ 99
 asc : t.ay.Pairwise (fun a b => a.ID < b.ID)
 okl : ∀ l ∈ t.Links, rU l = false
 ends : ∀ l ∈ t.Links, hasB t l.A = true ∧ hasB t l.B = true
 lt : ∀ l ∈ t.Links, l.A < l.B
 acf : t.Links.Pairwise (fun a b => ltL a b = true)
theorem ac6 (a b c : aV) (h1 : ltL a b = true) (h2 : ltL b c = true) : ltL a c = true := by
 simp [ltL] at *; omega
theorem any_false {α : Type} {l : List α} {p : α → Bool} : l.any p = false ↔ ∀ x ∈ l, p x = false := by
 rw [List.any_eq_false]; simp
theorem pq {t : aj} : iL t = 0 ↔ Vt t := by
 unfold iL
 constructor
 ·intro h
  by_cases h1 : (decide (24 < (t.ay.length : Int)) || decide (60 < (t.Links.length : Int))) = true
  ·rw [h1] at h; cases h
  simp only [Bool.not_eq_true] at h1
  rw [h1, cond_false] at h
  cases h2 : kA t <;> rw [h2] at h <;> first | cases h; done | skip
  cases h3 : kB t <;> rw [h3] at h <;> first | cases h; done | skip
  cases h4 : kC t <;> rw [h4] at h <;> first | cases h; done | skip
  cases h5 : kD t <;> rw [h5] at h <;> first | cases h; done | skip
  cases h6 : kE t <;> rw [h6] at h <;> first | cases h; done | skip
  cases h7 : kF t <;> rw [h7] at h <;> first | cases h; done | skip
  simp only [Bool.or_eq_false_iff, decide_eq_false_iff_not] at h1
  refine ⟨by omega, by omega, fun r hr => ?_, ac5 h3, any_false.1 h4, fun l hl => ?_, fun l hl => ?_, mT ac6 h7⟩
  ·have := any_false.1 h2 r hr; simp [vn] at this; omega
  ·have := any_false.1 h5 l hl; simpa using this
  ·have := any_false.1 h6 l hl; simpa using this
 ·intro h
  have h1 : (decide (24 < (t.ay.length : Int)) || decide (60 < (t.Links.length : Int))) = false := by
   have := h.nr; have := h.nl; simp; omega
  have h2 : kA t = false := any_false.2 fun r hr => by have := h.idr r hr; simp [vn]; omega
  have h3 : kB t = true := jo (h.asc.imp fun h => by simpa using h)
  have h4 : kC t = false := any_false.2 h.okl
  have h5 : kD t = false := any_false.2 fun l hl => by have := h.ends l hl; simp [this]
  have h6 : kE t = false := any_false.2 fun l hl => by have := h.lt l hl; simp; omega
  have h7 : kF t = true := jo h.acf
  rw [h1, h2, h3, h4, h5, h6, h7]; rfl
theorem vu (t : aj) : fV t = some (decide (iL t = 0)) := by
 unfold fV; rw [vp]; rfl
theorem xw {t : aj} {r : Int} : hasB t r = true ↔ ∃ x ∈ t.ay, x.ID = r := by simp [hasB]
/-! ## yE -/
/-! ## has, capable, cost -/
theorem aim (t : aj) (r : Int) : l5 t r = some (decide (iL t = 0) && hasB t r) := by
 unfold l5
 simp only [qg, aa8, aL]
 cases decide (iL t = 0) <;> rfl
def acg (t : aj) (r : Int) : aN × Bool := if bsT (fun x : aN => dO x.ID r) t.ay then (el t.ay (bsR (fun x : aN => dO x.ID r) t.ay), true) else (aN.mk 0 false, false)
theorem afb (t : aj) (r : Int) (hl : t.ay.length ≤ 1000000) : jQ t r = some (acg t r) := by
 unfold jQ acg
 rw [alx t.ay r _ (fun x => dO x.ID r) hl (fun x => aau x r)]
 simp only [aL]
 cases h : bsT (fun x : aN => dO x.ID r) t.ay
 ·rfl
 ·have h2 : bsR (fun x : aN => dO x.ID r) t.ay < t.ay.length := by
   simp only [bsT, Bool.and_eq_true, decide_eq_true_eq] at h; exact h.1
  simp only [Bool.not_true, cond_false, qh h2, aL, if_true]
theorem ain {t : aj} (h : Vt t) (r : Int) : bsT (fun x : aN => dO x.ID r) t.ay = hasB t r := by
 have := aa9 (t := t) (jo (h.asc.imp fun h => by simpa using h)) r
 simpa [afa] using this
theorem aio (t : aj) (r : Int) (hl : t.ay.length ≤ 1000000) : iZ t r = some (decide (iL t = 0) && hasB t r) := by
 unfold iZ
 simp only [afb t r hl, vu, aL]
 by_cases h : iL t = 0
 ·simp only [h, decide_true, cond_true, Bool.true_and, acg, ain (pq.1 h)]
  cases hasB t r <;> rfl
 ·simp [h]
/-- the first bw does -/
theorem zl {α σ β : Type} {B : Int → α → (σ → Option β) → σ → Option β} {K : σ → Option β} (p : α → Bool) (g : α → Option β) (hB : ∀ j x Z s, B j x Z s = bif p x then g x else Z s) (l : List α) (j : Nat) (s : σ) :
  bn l j B K s = match l.find? p with | some x => g x | none => K s :=
 th (f := fun l s => match l.find? p with | some x => g x | none => K s) (fun s => rfl) (fun j x r s Z hZ => by
  rw [hB, hZ, List.find?_cons]; cases p x <;> rfl) l j s
theorem aly {t : aj} (h : Vt t) {a b : aV} (ha : a ∈ t.Links) (hb : b ∈ t.Links) (hA : a.A = b.A) (hB : a.B = b.B) : a = b := by
 obtain ⟨i, hi, rfl⟩ := List.getElem_of_mem ha
 obtain ⟨j, hj, rfl⟩ := List.getElem_of_mem hb
 have := List.pairwise_iff_getElem.1 h.acf
 rcases Nat.lt_trichotomy i j with q | q | q
 ·have := this i j hi hj q; simp [ltL] at this; omega
 ·subst q; rfl
 ·have := this j i hj hi q; simp [ltL] at this; omega
def jc (l : aV) (a b : Int) : Bool := (decide (l.A = a) && decide (l.B = b)) || (decide (l.B = a) && decide (l.A = b))
def tj (a b : Int) (l : aV) : Int × Bool := (bif decide (l.A = a) && decide (l.B = b) then l.o5 else l.nQ, true)
def jq (t : aj) (a b : Int) : Int × Bool := match t.Links.find? (fun l => jc l a b) with | some l => tj a b l | none => (0, false)
def kZ (t : aj) (a b : Int) : Bool := t.Links.any fun l => jc l a b
theorem zm (t : aj) (a b : Int) : jI t a b = some (jq t a b) := by
 unfold jI jq
 refine (zl (fun l : aV => jc l a b) (fun l => some (tj a b l)) (fun j x Z s => ?_) _ _ _).trans ?_
 ·unfold jc tj
  cases decide (x.A = a) && decide (x.B = b) <;> cases decide (x.B = a) && decide (x.A = b) <;> rfl
 ·cases t.Links.find? _ <;> rfl
theorem zn (t : aj) (a b : Int) : (jq t a b).2 = kZ t a b := by
 unfold jq kZ
 cases hf : t.Links.find? (fun l => jc l a b) with
 | none => symm; exact any_false.2 fun x hx => by simpa using List.find?_eq_none.1 hf x hx
 | some x =>
  symm
  exact List.any_eq_true.2 ⟨x, List.mem_of_find?_eq_some hf, by simpa using List.find?_some hf⟩
theorem afc (t : aj) (a b : Int) : mL t a b = some (if iL t = 0 then jq t a b else (0, false)) := by
 unfold mL
 simp only [qg, zm, aL]
 by_cases h : iL t = 0 <;> simp [h]
theorem afd {t : aj} (h : Vt t) {a b : Int} {l : aV} (hm : l ∈ t.Links) (he : jc l a b = true) : jq t a b = tj a b l := by
 unfold jq
 cases hf : t.Links.find? (fun l => jc l a b) with
 | none => exact absurd he (List.find?_eq_none.1 hf l hm)
 | some x =>
  have hx := List.mem_of_find?_eq_some hf
  have hp := List.find?_some hf
  have h1 := h.lt _ hm
  have h2 := h.lt _ hx
  simp [jc] at he hp
  rw [aly h hx hm (by omega) (by omega)]
theorem aip {t : aj} (h : Vt t) (v : aV) : ∀ a b : Nat, a ≤ b → b < t.Links.length → jG (el t.Links a) v ≤ jG (el t.Links b) v := by
 refine nZ (f := fun l : aV => jG l v) (h.acf.imp fun {a b} hab => ?_)
 have c3 : ∀ x y : Int, dO x y = -1 ∨ dO x y = 0 ∨ dO x y = 1 := fun x y => by
  unfold dO; split
  ·exact .inl rfl
  ·split
   ·exact .inr (.inr rfl)
   ·exact .inr (.inl rfl)
 have : ∀ x y : aV, jG x y = -1 ∨ jG x y = 0 ∨ jG x y = 1 := fun x y => by
  have q1 := c3 x.A y.A
  have q2 := c3 x.B y.B
  simp only [jG, orI]
  generalize dO x.A y.A = p at *
  generalize dO x.B y.B = q at *
  by_cases h1 : p = 0
  ·by_cases h2 : q = 0 <;> simp [h1, h2]; omega
  ·simp [h1]; omega
 have h1 := @v8 a v
 have h2 := @v8 b v
 have h3 := @we a v
 have h4 := @we b v
 have q1 := this a v
 have q2 := this b v
 simp [ltL] at hab h1 h2
 omega
theorem afe (t : aj) (a b : Int) (hl : t.Links.length ≤ 1000000) : jR t a b = some (if iL t = 0 then jq t a b else (0, false)) := by
 unfold jR
 simp only [vu, aL]
 by_cases h : iL t = 0
 ·have hv := pq.1 h
  simp only [h, decide_true, Bool.not_true, cond_false, if_true]
  generalize hv2 : aV.mk (if b < a then b else a) (if b > a then b else a) 0 0 0 = v
  rw [bsLk t.Links v _ (fun x => jG x v) hl (fun x => wG x v)]
  simp only [aL]
  have hA : v.A = if b < a then b else a := by rw [← hv2]
  have hB : v.B = if b > a then b else a := by rw [← hv2]
  cases hT : bsT (fun x : aV => jG x v) t.Links
  ·simp only [Bool.not_false, cond_true]
   congr 1
   unfold jq
   cases hf : t.Links.find? (fun l => jc l a b) with
   | none => rfl
   | some x =>
    exfalso
    have hx := List.mem_of_find?_eq_some hf
    have hp := List.find?_some hf
    have h2 := h
    have := (yQ (f := fun x : aV => jG x v) (aip hv v)).2 ⟨x, hx, by
     rw [we, hA, hB]
     have := hv.lt _ hx
     simp [jc] at hp
     split <;> split <;> omega⟩
    rw [hT] at this; cases this
  ·simp only [bsT, Bool.and_eq_true, decide_eq_true_eq] at hT
   obtain ⟨q1, q2⟩ := hT
   rw [we, hA, hB] at q2
   have hm := ac4 q1
   simp only [Bool.not_true, cond_false, qh q1, aL]
   have hlt := hv.lt _ hm
   have e : jc (el t.Links (bsR (fun x : aV => jG x v) t.Links)) a b = true := by
    simp [jc]; by_cases q3 : b < a <;> by_cases q4 : b > a <;> simp only [q3, q4, if_true, if_false] at q2 <;> omega
   rw [afd hv hm e]
   unfold tj
   by_cases hab : a < b
   ·have : decide (a < b) = true := by simpa using hab
    rw [this, cond_true]
    have : (decide ((el t.Links (bsR (fun x : aV => jG x v) t.Links)).A = a) && decide ((el t.Links (bsR (fun x : aV => jG x v) t.Links)).B = b)) = true := by
     simp; by_cases q3 : b < a <;> by_cases q4 : b > a <;> simp only [q3, q4, if_true, if_false] at q2 <;> omega
    rw [this]; rfl
   ·have : decide (a < b) = false := by simpa using hab
    rw [this, cond_false]
    have : (decide ((el t.Links (bsR (fun x : aV => jG x v) t.Links)).A = a) && decide ((el t.Links (bsR (fun x : aV => jG x v) t.Links)).B = b)) = false := by
     simp; by_cases q3 : b < a <;> by_cases q4 : b > a <;> simp only [q3, q4, if_true, if_false] at q2 <;> omega
    rw [this]; rfl
 ·simp [h]
/-! ## acd -/
def ids (t : aj) : List Int := t.ay.map (·.ID)
theorem aav {t : aj} (h : Vt t) : (ids t).Pairwise (· < ·) := List.pairwise_map.2 h.asc
theorem pV {t : aj} {r : Int} : r ∈ ids t ↔ hasB t r = true := by rw [xw]; simp [ids]
theorem qU {t : aj} {a b : Int} : kZ t a b = true ↔ ∃ l ∈ t.Links, (l.A = a ∧ l.B = b) ∨ (l.B = a ∧ l.A = b) := by
 simp [kZ, jc]
theorem rV {t : aj} {a b : Int} (h : kZ t a b = true) : kZ t b a = true := by
 rw [qU] at h ⊢
 obtain ⟨l, hl, h⟩ := h
 exact ⟨l, hl, by omega⟩
theorem alz {t : aj} (hv : Vt t) {a b : Int} (h : kZ t a b = true) : a ≠ b := by
 rw [qU] at h
 obtain ⟨l, hl, h⟩ := h
 have := hv.lt l hl
 omega
theorem nt {t : aj} (hv : Vt t) {a b : Int} (h : kZ t a b = true) : b ∈ ids t := by
 rw [qU] at h
 obtain ⟨l, hl, h⟩ := h
 have := hv.ends l hl
 rcases h with ⟨h1, h2⟩ | ⟨h1, h2⟩ <;> rw [pV, ← h2]
 ·exact this.2
 ·exact this.1
def jU (t : aj) (r : Int) : List Int := (ids t).filter fun x => kZ t r x
theorem xx {t : aj} (hv : Vt t) (r : Int) : (jU t r).Pairwise (· < ·) := (aav hv).sublist List.filter_sublist
theorem vv {t : aj} (hv : Vt t) {r x : Int} : x ∈ jU t r ↔ kZ t r x = true := by
 unfold jU; rw [List.mem_filter]
 exact ⟨fun h => h.2, fun h => ⟨nt hv h, h⟩⟩
theorem aff {t : aj} (hv : Vt t) (r : Int) : mM t r = some (jU t r) := by
 unfold mM
 have := hv.nr
 refine (sD (fun x : aN => kZ t r x.ID) (·.ID) _ _ _ ?_ (by simp; omega)).trans ?_
 ·intro j x Z s _ hs
  simp only [jn, zm, zn, aL, uf hs]
 ·simp only [List.nil_append, jU, ids]
  rw [List.filter_map]; rfl
/-- the other end of each link of a bz -/
def er (r : Int) (l : aV) : Option Int := if r = l.A then some l.B else if r = l.B then some l.A else none
theorem vw {α γ β : Type} {B : Int → α → (List γ → Option β) → List γ → Option β} {K : List γ → Option β} (f : α → Option γ) :
  ∀ (l : List α) (j : Nat) (s : List γ), (∀ (j : Nat) x Z s, x ∈ l → s.length < 1000000 → B j x Z s = match f x with | some y => Z (s ++ [y]) | none => Z s) → l.length + s.length ≤ 1000000 → bn l j B K s = K (s ++ l.filterMap f)
 | [], j, s, _, _ => by simp [bn]
 | x :: r, j, s, hB, h => by
  simp only [List.length_cons] at h
  simp only [bn]
  rw [hB j x _ s (by simp) (by omega)]
  have hB' : ∀ (j : Nat) y Z s, y ∈ r → s.length < 1000000 → B j y Z s = match f y with | some y => Z (s ++ [y]) | none => Z s := fun j y Z s hy => hB j y Z s (by simp [hy])
  cases hp : f x with
  | none => simp only; rw [vw f r (j + 1) s hB' (by omega), List.filterMap_cons_none hp]
  | some y => simp only; rw [vw f r (j + 1) (s ++ [y]) hB' (by simp; omega), List.filterMap_cons_some hp]; simp
theorem sS {t : aj} (hv : Vt t) (r : Int) : (t.Links.filterMap (er r)).Nodup := by
 have key : ∀ l : List aV, (∀ x ∈ l, x.A < x.B) → l.Pairwise (fun a b => ltL a b = true) → (l.filterMap (er r)).Nodup := by
  intro l
  induction l with
  | nil => intros; simp
  | cons x l ih =>
   intro h1 h2
   rw [List.pairwise_cons] at h2
   have ih := ih (fun y hy => h1 y (by simp [hy])) h2.2
   cases hx : er r x with
   | none => rw [List.filterMap_cons_none hx]; exact ih
   | some y =>
    rw [List.filterMap_cons_some hx, List.nodup_cons]
    refine ⟨fun hm => ?_, ih⟩
    obtain ⟨z, hz, hzy⟩ := List.mem_filterMap.1 hm
    have h3 := h2.1 z hz
    have h4 := h1 x (by simp)
    have h5 := h1 z (by simp [hz])
    unfold er at hx hzy
    simp [ltL] at h3
    split at hx <;> split at hzy <;> (try split at hx) <;> (try split at hzy) <;> simp at hx hzy <;> omega
 exact key _ hv.lt hv.acf
theorem zo {t : aj} {r x : Int} (hv : Vt t) : x ∈ t.Links.filterMap (er r) ↔ kZ t r x = true := by
 rw [List.mem_filterMap, qU]
 constructor
 ·rintro ⟨l, hl, h⟩
  unfold er at h
  refine ⟨l, hl, ?_⟩
  split at h
  ·simp at h; omega
  ·split at h
   ·simp at h; omega
   ·cases h
 ·rintro ⟨l, hl, h⟩
  refine ⟨l, hl, ?_⟩
  have := hv.lt l hl
  unfold er
  rcases h with h | h
  ·rw [if_pos (by omega), h.2]
  ·rw [if_neg (by omega), if_pos (by omega), h.2]
theorem afg {t : aj} (hv : Vt t) (r : Int) : gl t r = some (jU t r) := by
 unfold gl
 have := hv.nl
 refine (vw (er r) _ _ _ ?_ (by simp; omega)).trans ?_
 ·intro j x Z s _ hs
  simp only [jn, uf hs, aL, er]
  by_cases h1 : r = x.A
  ·simp [h1]
  ·by_cases h2 : r = x.B <;> simp [h1, h2]
   simp [← h2, h1]
 ·have hlen : (t.Links.filterMap (er r)).length ≤ 60 := Nat.le_trans (List.length_filterMap_le _ _) (by omega)
  simp only [List.nil_append]
  rw [anI (by simp; omega)]
  congr 1
  refine vq (xu (sS hv r)) (xx hv r) fun x => ?_
  rw [vr, zo hv, vv hv]
theorem yR (t : aj) (r : Int) : iq t r = some (if iL t = 0 then jU t r else []) := by
 unfold iq
 simp only [qg, aL]
 by_cases h : iL t = 0
 ·simp [h, aff (pq.1 h), aL]
 ·simp [h]
theorem yS (t : aj) (r : Int) : gm t r = some (if iL t = 0 then jU t r else []) := by
 unfold gm
 simp only [vu, aL]
 by_cases h : iL t = 0
 ·simp [h, afg (pq.1 h), aL]
 ·simp [h]
end Go.Proofs.Ytmfehenfoepkfaa

/- Plain: who is connected with whom. No condition. -/
namespace Go.Proofs.Ytmfehenfoepkfaa
set_option linter.all false
open Go
/-- a loop, with what was ac1 -/
theorem Ok.xy {α σ β : Type} {B : Int → α → (σ → Option β) → σ → Option β} {K : σ → Option β} {Q : β → Prop} (I : List α → σ → Prop) {L : List α}
  (hc : ∀ (p : List α) x r s Z, L = p ++ x :: r → I p s → (∀ s', I (p ++ [x]) s' → Ok (Z s') Q) → Ok (B (p.length : Int) x Z s) Q) (s : σ) (h : I [] s) (hn : ∀ s, I L s → Ok (K s) Q) : Ok (Go.Proofs.Ytmfehenfoepkfaa.bn L 0 B K s) Q := by
 have key : ∀ (l p : List α) (s : σ), L = p ++ l → I p s → Ok (Go.Proofs.Ytmfehenfoepkfaa.bn l p.length B K s) Q := by
  intro l
  induction l with
  | nil => intro p s hj h; exact hn s (by rw [hj, List.append_nil]; exact h)
  | cons x r ih =>
   intro p s hj h
   refine hc p x r s _ hj h fun s' h' => ?_
   have := ih (p ++ [x]) s' (by simp [hj]) h'
   rwa [List.length_append] at this
 exact key L [] s rfl h
inductive Cn (t : aj) (c : List Int) : Int → Int → Prop
 | refl {a : Int} (h : a ∉ c) : Cn t c a a
 | step {a b d : Int} (h : Cn t c a b) (ha : kZ t b d = true) (hd : d ∉ c) : Cn t c a d
theorem Cn.trans {t : aj} {c : List Int} {a b d : Int} (h1 : Cn t c a b) (h2 : Cn t c b d) : Cn t c a d := by
 induction h2 with
 | refl _ => exact h1
 | step _ ha hd ih => exact .step ih ha hd
theorem Cn.left {t : aj} {c : List Int} {a b : Int} (h : Cn t c a b) : a ∉ c := by
 induction h with
 | refl h => exact h
 | step _ _ _ ih => exact ih
theorem Cn.right {t : aj} {c : List Int} {a b : Int} (h : Cn t c a b) : b ∉ c := by
 cases h with
 | refl h => exact h
 | step _ _ hd => exact hd
theorem Cn.symm {t : aj} {c : List Int} {a b : Int} (h : Cn t c a b) : Cn t c b a := by
 induction h with
 | refl h => exact .refl h
 | step h ha hd ih => exact (Cn.step (.refl hd) (rV ha) h.right).trans ih
theorem Cn.ids {t : aj} (hv : Vt t) {c : List Int} {a b : Int} (h : Cn t c a b) (ha : a ∈ ids t) : b ∈ ids t := by
 cases h with
 | refl h => exact ha
 | step _ hd _ => exact nt hv hd
end Go.Proofs.Ytmfehenfoepkfaa

/- Plain: components, aiq and cuts. No condition. -/
namespace Go.Proofs.Ytmfehenfoepkfaa
set_option linter.all false
open Go
/-! ## connected -/
/-! ## components -/
theorem afh {α : Type} (l : List (Int × α)) (n m : Int) (b : α) : cB (gz l n b) m = if m = n then some b else cB l m := by
 induction l with
 | nil =>
  simp only [gz, cB, List.find?]
  by_cases h : n = m
  ·simp [h]
  ·simp [h, Ne.symm h]
 | cons p r ih =>
  simp only [gz]
  by_cases h1 : p.1 = n
  ·rw [if_pos h1]
   simp only [cB, List.find?] at ih ⊢
   by_cases h2 : n = m
   ·simp [h2]
   ·have : p.1 ≠ m := by omega
    simp [h2, this, Ne.symm h2]
  ·rw [if_neg h1]
   simp only [cB, List.find?] at ih ⊢
   by_cases h2 : p.1 = m
   ·have : m ≠ n := by omega
    simp [h2, this]
   ·simp [h2]; exact ih
/-! ## aiq -/
/-! ## cuts -/
end Go.Proofs.Ytmfehenfoepkfaa
