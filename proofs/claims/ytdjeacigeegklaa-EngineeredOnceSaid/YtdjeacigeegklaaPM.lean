/- Several texts in one. No condition but those that stand in each. -/
import Derived.Test.YtdjeacigeegklaaBA
import Derived.Test.YtdjeacigeegklaaDA
/- Plain facts on the words in which the program is written lz. No program in sight. No condition. -/
namespace Go.Proofs.Ytdjeacigeegklaa
set_option linter.all false
open Go
theorem bK {α β : Type} (a : α) (k : α → Option β) : bnd (some a) k = k a := rfl
theorem nj {α : Type} {p : Prop} [Decidable p] {x y : α} : (bif decide p then x else y) = if p then x else y := by
 by_cases h : p <;> simp [h]
/-- a loop along a list comes to what 'f' amr -/
theorem sX {α σ β : Type} {B : Int → α → (σ → Option β) → σ → Option β} {K : σ → Option β} (f : List α → σ → Option β) (hn : ∀ s, K s = f [] s)
  (hc : ∀ (j : Int) x r s Z, (∀ s', Z s' = f r s') → B j x Z s = f (x :: r) s) : ∀ (l : List α) (j : Nat) (s : σ), bY l j B K s = f l s
 | [], _, s => hn s
 | x :: r, j, s => hc j x r s _ fun s' => sX f hn hc r (j + 1) s'
/-- what is so of a result -/
def Ok {β : Type} (o : Option β) (Q : β → Prop) : Prop := ∃ r, o = some r ∧ Q r
theorem Ok.s {β : Type} {Q : β → Prop} {r : β} (h : Q r) : Ok (some r) Q := ⟨r, rfl, h⟩
theorem Ok.bnd {α β : Type} {o : Option α} {k : α → Option β} {P : α → Prop} {Q : β → Prop} (h : Ok o P) (hk : ∀ a, P a → Ok (k a) Q) : Ok (bnd o k) Q := by
 obtain ⟨a, rfl, ha⟩ := h; exact hk a ha
theorem Ok.cs {β : Type} {c : Bool} {x y : Option β} {Q : β → Prop} (h1 : c = true → Ok x Q) (h2 : c = false → Ok y Q) : Ok (bif c then x else y) Q := by
 cases c
 ·exact h2 rfl
 ·exact h1 rfl
theorem Ok.chk {β : Type} {c : Bool} {k : Option β} {Q : β → Prop} (h : c = true) (hk : Ok k Q) : Ok (chk c k) Q := by subst h; exact hk
theorem Ok.jn {σ β : Type} {k : σ → Option β} {t : (σ → Option β) → Option β} {Q : β → Prop} (R : σ → Prop) (h1 : ∀ s, R s → Ok (k s) Q) (h2 : ∀ J, (∀ s, R s → Ok (J s) Q) → Ok (t J) Q) : Ok (jn k t) Q := h2 k h1
theorem Ok.mono {β : Type} {o : Option β} {Q Q' : β → Prop} (h : Ok o Q) (hq : ∀ r, Q r → Q' r) : Ok o Q' := by
 obtain ⟨r, h1, h2⟩ := h; exact ⟨r, h1, hq r h2⟩
theorem Ok.bY {α σ β : Type} {B : Int → α → (σ → Option β) → σ → Option β} {K : σ → Option β} {Q : β → Prop} (I : Nat → σ → Prop)
  (hc : ∀ (j : Nat) x s Z, I j s → (∀ s', I (j + 1) s' → Ok (Z s') Q) → Ok (B (j : Int) x Z s) Q) : ∀ (l : List α) (j : Nat) (s : σ), I j s → (∀ s, I (j + l.length) s → Ok (K s) Q) → Ok (bY l j B K s) Q
 | [], j, s, h, hn => hn s (by simpa using h)
 | x :: r, j, s, h, hn => hc j x s _ h fun s' h' => Ok.bY I hc r (j + 1) s' h' fun s hs => hn s (by rwa [List.length_cons, ← Nat.add_assoc, Nat.add_right_comm])
/-- the same, the elements known -/
theorem Ok.forM {α σ β : Type} {B : Int → α → (σ → Option β) → σ → Option β} {K : σ → Option β} {Q : β → Prop} (I : Nat → σ → Prop) {L : List α}
  (hc : ∀ (j : Nat) x s Z, j < L.length → x ∈ L → I j s → (∀ s', I (j + 1) s' → Ok (Z s') Q) → Ok (B (j : Int) x Z s) Q) (s : σ) (h : I 0 s) (hn : ∀ s, I L.length s → Ok (K s) Q) : Ok (Go.Proofs.Ytdjeacigeegklaa.bY L 0 B K s) Q := by
 have key : ∀ (l : List α) (j : Nat) (s : σ), (∀ x ∈ l, x ∈ L) → j + l.length = L.length → I j s → Ok (Go.Proofs.Ytdjeacigeegklaa.bY l j B K s) Q := by
  intro l
  induction l with
  | nil => intro j s _ hj h; exact hn s (by simpa [← hj] using h)
  | cons x r ih =>
   intro j s hm hj h
   simp only [List.length_cons] at hj
   exact hc j x s _ (by omega) (hm x (by simp)) h fun s' h' => ih (j + 1) s' (fun y hy => hm y (by simp [hy])) (by omega) h'
 exact key L 0 s (fun _ h => h) (by simp) h
theorem Ok.jY {σ β : Type} {B : Int → (σ → Option β) → σ → Option β} {K : Int → σ → Option β} {Q : β → Prop} (I : Int → σ → Prop) (lo hi : Int)
  (hc : ∀ (i : Int) s Z, lo ≤ i → i < hi → I i s → (∀ s', I (i + 1) s' → Ok (Z s') Q) → Ok (B i Z s) Q) (hn : ∀ i s, lo ≤ i → (lo ≤ hi → i = hi) → I i s → Ok (K i s) Q) : ∀ (n : Nat) (i : Int) (s : σ), n = (hi - i).toNat → lo ≤ i → (lo ≤ hi → i ≤ hi) → I i s → Ok (jY n i B K s) Q
 | 0, i, s, hn0, h1, h2, h => hn i s h1 (fun hh => by have := h2 hh; omega) h
 | n + 1, i, s, hn0, h1, h2, h => hc i s _ h1 (by omega) h fun s' h' => Ok.jY I lo hi hc hn n (i + 1) s' (by omega) (by omega) (fun _ => by omega) h'
theorem Ok.iter {σ β : Type} {F : (σ → Option β) → σ → Option β} {Q : β → Prop} (I : σ → Prop) (μ : σ → Nat)
  (hc : ∀ s Z, I s → (∀ s', I s' → μ s' < μ s → Ok (Z s') Q) → Ok (F Z s) Q) : ∀ (n : Nat) (s : σ), I s → μ s < n → Ok (iter F n s) Q
 | 0, s, _, h => by omega
 | n + 1, s, h, hm => hc s _ h fun s' h' hm' => Ok.iter I μ hc n s' h' (by omega)
theorem Ok.whl {σ β : Type} {F : (σ → Option β) → σ → Option β} {Q : β → Prop} (I : σ → Prop) (μ : σ → Nat) {s : σ} (h : I s) (hm : μ s < 1099511627776)
  (hc : ∀ s Z, I s → (∀ s', I s' → μ s' < μ s → Ok (Z s') Q) → Ok (F Z s) Q) : Ok (whl F s) Q := Ok.iter I μ hc fuel s h hm
theorem Ok.get {β : Type} {o : Option β} {Q : β → Prop} (h : Ok o Q) : ∃ r, o = some r ∧ Q r := h
theorem Ok.eq {β : Type} {o : Option β} {r : β} (h : Ok o (fun x => x = r)) : o = some r := by obtain ⟨x, h1, rfl⟩ := h; exact h1
theorem ac9 {α : Type} (p : List α) (x : α) (r : List α) : elO (p ++ x :: r) (p.length : Int) = some x := by
 unfold elO; rw [if_pos (by omega)]; simp
theorem mq {α : Type} {l : List α} {i : Int} (h0 : 0 ≤ i) (h : i < l.length) : Ok (elO l i) (fun x => x ∈ l ∧ l[i.toNat]? = some x) := by
 unfold elO; rw [if_pos h0]
 have : i.toNat < l.length := by omega
 exact ⟨l[i.toNat], List.getElem?_eq_getElem this, List.getElem_mem this, List.getElem?_eq_getElem this⟩
theorem yG {α : Type} {l r : List α} (h : l.length + r.length ≤ 549755813888) : eR l r = some (l ++ r) := by unfold eR; rw [if_pos (by unfold cap; exact h)]
theorem sY {α : Type} {l r : List α} (h : l.length + r.length ≤ 549755813888) : Ok (eR l r) (fun m => m = l ++ r ∧ m.length = l.length + r.length) := ⟨_, yG h, rfl, by simp⟩
theorem ada {α : Type} {l : List α} {i : Int} {x : α} (h0 : 0 ≤ i) (h : i < l.length) : Ok (tw l i x) (fun m => m = l.set i.toNat x ∧ m.length = l.length) := by
 unfold tw; rw [if_pos ⟨h0, h⟩]; exact ⟨_, rfl, rfl, by simp⟩
theorem aap {α : Type} {l : List α} {a b : Int} (h : 0 ≤ a ∧ a ≤ b ∧ b ≤ l.length) : Ok (pT l a b) (fun m => m = (l.take b.toNat).drop a.toNat ∧ (m.length : Int) = b - a) := by
 unfold pT; rw [if_pos h]; exact ⟨_, rfl, rfl, by simp; omega⟩
/-- the first loop: does any do -/
theorem iQ {α σ β : Type} {B : Int → α → (σ → Option β) → σ → Option β} {K : σ → Option β} (p : α → Bool) (a : Option β) (hB : ∀ j x Z s, B j x Z s = bif p x then a else Z s) (l : List α) (j : Nat) (s : σ) : bY l j B K s = bif l.any p then a else K s :=
 sX (f := fun l s => bif l.any p then a else K s) (fun s => rfl) (fun j x r s Z hZ => by
  rw [hB, hZ, List.any_cons]; cases p x <;> rfl) l j s
end Go.Proofs.Ytdjeacigeegklaa

/- Plain: the two Checks of a o8 uo to the same. No condition. -/
namespace Go.Proofs.Ytdjeacigeegklaa
set_option linter.all false
open Go
def rX (n : Int) : Bool := decide (1 ≤ n) && decide (n ≤ 1000)
def hasB (t : aa) (r : Int) : Bool := t.aC.any fun x => decide (x.ID = r)
def u0 (r : aP) : Bool := decide (r.ID < 1) || decide (99 < r.ID)
def pZ (l : bf) : Bool := !rX l.jL || !rX l.jM || decide (l.lC < 0) || decide (1000 < l.lC)
def ltL (a b : bf) : Bool := decide (a.A < b.A) || (decide (a.A = b.A) && decide (a.B < b.B))
def lH {α : Type} (p : α → α → Bool) : List α → Bool
 | a :: b :: r => p a b && lH p (b :: r)
 | _ => true
def kA (t : aa) : Bool := t.aC.any u0
def kB (t : aa) : Bool := lH (fun a b => decide (a.ID < b.ID)) t.aC
def kC (t : aa) : Bool := t.Links.any pZ
def kD (t : aa) : Bool := t.Links.any fun l => !hasB t l.A || !hasB t l.B
def kE (t : aa) : Bool := t.Links.any fun l => decide (l.B ≤ l.A)
def kF (t : aa) : Bool := lH ltL t.Links
def jb (t : aa) : Int :=
 bif decide (24 < (t.aC.length : Int)) || decide (60 < (t.Links.length : Int)) then 3
 else bif kA t then 2 else bif kB t then (bif kC t then 2 else bif kD t then 4 else bif kE t then 8 else bif kF t then 0 else 25) else 25
/-- a loop aY looks at acd, behind the first -/
theorem xh {α σ β : Type} {B : Int → α → (σ → Option β) → σ → Option β} {K : σ → Option β} {L : List α} (p : α → α → Bool) (a : Option β)
  (hB : ∀ (j : Nat) x y r q s Z, L = q ++ y :: x :: r → j = q.length + 1 → B (j : Int) x Z s = bif p y x then Z s else a) : ∀ (r q : List α) (y : α) (s : σ), L = q ++ y :: r → bY r (q.length + 1) B K s = bif lH p (y :: r) then K s else a
 | [], q, y, s, h => rfl
 | x :: r, q, y, s, h => by
  simp only [bY]
  rw [hB (q.length + 1) x y r q s _ h rfl]
  have := xh (B := B) (K := K) p a hB r (q ++ [y]) x s (by simpa using h)
  simp only [List.length_append, List.length_cons, List.length_nil] at this
  rw [this]
  simp only [lH]
  cases p y x <;> rfl
theorem rY {α σ β : Type} {B : Int → α → (σ → Option β) → σ → Option β} {K : σ → Option β} {L : List α} (p : α → α → Bool) (a : Option β)
  (hB : ∀ (j : Nat) x y r q s Z, L = q ++ y :: x :: r → j = q.length + 1 → B (j : Int) x Z s = bif p y x then Z s else a) (s : σ) : bY (L.drop 1) 1 B K s = bif lH p L then K s else a := by
 cases L with
 | nil => rfl
 | cons y r => exact xh (B := B) (K := K) p a hB r [] y s rfl
theorem zm {α σ β : Type} {B : Int → α → (σ → Option β) → σ → Option β} {K : σ → Option β} {L : List α} (p : α → α → Bool) (a : Option β) (h0 : ∀ x Z s, B ((0 : Nat) : Int) x Z s = Z s)
  (hB : ∀ (j : Nat) x y r q s Z, L = q ++ y :: x :: r → j = q.length + 1 → B (j : Int) x Z s = bif p y x then Z s else a) (s : σ) : bY L 0 B K s = bif lH p L then K s else a := by
 cases L with
 | nil => rfl
 | cons y r =>
  simp only [bY]
  rw [h0]
  exact xh (B := B) (K := K) p a hB r [] y s rfl
/-- the place ahead -/
theorem o9 {α : Type} {L : List α} {j : Nat} {y x : α} {r q : List α} (h : L = q ++ y :: x :: r) (hj : j = q.length + 1) (hL : (L.length : Int) ≤ 9223372036854775807) : elO L (w64 ((j : Int) - 1)) = some y := by
 have hl : q.length + 2 ≤ L.length := by rw [h]; simp
 rw [gH (by omega) (by omega), show (j : Int) - 1 = (q.length : Int) by omega, h, ac9]
theorem afw (n : Int) : mh n = some (rX n) := rfl
theorem akz (t : aa) (r : Int) : lQ t r = some (hasB t r) := by
 unfold lQ
 refine (iQ (fun x : aP => decide (x.ID = r)) (some true) ?_ _ _ _).trans ?_
 ·intros; rfl
 ·unfold hasB; cases t.aC.any _ <;> rfl
theorem zn (t : aa) : jE t = some (jb t) := by
 unfold jE jb
 by_cases hlen : (decide (24 < (t.aC.length : Int)) || decide (60 < (t.Links.length : Int))) = true
 ·rw [hlen]; rfl
 rw [Bool.not_eq_true] at hlen
 rw [hlen]
 simp only [cond_false]
 simp only [Bool.or_eq_false_iff, decide_eq_false_iff_not] at hlen
 refine (iQ u0 (some 2) ?_ _ _ _).trans ?_
 ·intros; rfl
 unfold kA
 cases t.aC.any u0
 case true => rfl
 simp only [cond_false]
 refine (rY (fun a b : aP => decide (a.ID < b.ID)) (some 25) ?_ _).trans ?_
 ·intro j x y r q s Z h hj
  simp only [o9 h hj (by omega), bK, nj]
  split <;> split <;> first | rfl | omega
 unfold kB
 cases lH _ t.aC
 case false => rfl
 simp only [cond_true]
 refine (iQ pZ (some 2) ?_ _ _ _).trans ?_
 ·intro j x Z s
  simp only [jn, afw, bK, pZ]
  cases rX x.jL <;> cases rX x.jM <;> simp [nj] <;> (try split) <;> (try split) <;> simp_all <;> omega
 unfold kC
 cases t.Links.any pZ
 case true => rfl
 simp only [cond_false]
 refine (iQ (fun l => !hasB t l.A || !hasB t l.B) (some 4) ?_ _ _ _).trans ?_
 ·intro j x Z s
  simp only [jn, akz, bK]
  cases hasB t x.A <;> cases hasB t x.B <;> rfl
 unfold kD
 cases t.Links.any _
 case true => rfl
 simp only [cond_false]
 refine (iQ (fun l => decide (l.B ≤ l.A)) (some 8) ?_ _ _ _).trans ?_
 ·intros; rfl
 unfold kE
 cases t.Links.any _
 case true => rfl
 simp only [cond_false]
 refine (rY ltL (some 25) ?_ _).trans ?_
 ·intro j x y r q s Z h hj
  have e : (decide (x.A < y.A) || (decide (y.A = x.A) && decide (x.B ≤ y.B))) = !ltL y x := by
   rw [Bool.eq_iff_iff]; simp [ltL]; omega
  simp only [o9 h hj (by omega), bK]
  rw [e]
  cases ltL y x <;> rfl
 unfold kF
 cases lH ltL t.Links <;> rfl
/-! ## the uF -/
theorem xk {α σ : Type} {B : Int → α → (σ → Option Int) → σ → Option Int} {K : σ → Option Int} (p : α → Bool) (hB : ∀ j x Z s, B j x Z s = bif p x then some j else Z s) (hK : ∀ s, K s = some (-1)) : ∀ (l : List α) (j : Nat) (s : σ), ∃ r, bY l j B K s = some r ∧ decide (0 ≤ r) = l.any p
 | [], j, s => ⟨-1, hK s, rfl⟩
 | x :: r, j, s => by
  simp only [bY, hB, List.any_cons]
  cases p x
  ·simpa using xk p hB hK r (j + 1) s
  ·exact ⟨j, rfl, by simp⟩
theorem cfR (l : List aP) (f : aP → Option Bool) (p : aP → Bool) (hf : ∀ x, f x = some (p x)) : cR l f = some (l.any p) := by
 unfold cR dO
 obtain ⟨r, h1, h2⟩ := xk (B := fun (j1 : Int) (e1 : aP) (Z1 : Unit → Option Int) (sg : Unit) => match sg with | () => bnd (f e1) fun (ay : Bool) => bif ay then some (j1 : Int) else Z1 ()) (K := fun (sg : Unit) => match sg with | () => some (-1:Int)) p (fun j x Z s => by simp only [hf, bK]) (fun _ => rfl) l 0 ()
 simp only [h1, bK, h2]
theorem cfL (l : List bf) (f : bf → Option Bool) (p : bf → Bool) (hf : ∀ x, f x = some (p x)) : ct l f = some (l.any p) := by
 unfold ct ez
 obtain ⟨r, h1, h2⟩ := xk (B := fun (j1 : Int) (e1 : bf) (Z1 : Unit → Option Int) (sg : Unit) => match sg with | () => bnd (f e1) fun (ay : Bool) => bif ay then some (j1 : Int) else Z1 ()) (K := fun (sg : Unit) => match sg with | () => some (-1:Int)) p (fun j x Z s => by simp only [hf, bK]) (fun _ => rfl) l 0 ()
 simp only [h1, bK, h2]
def ij (x y : Int) : Int := if x < y then -1 else if y < x then 1 else 0
theorem abb (x y : Int) : eo x y = some (ij x y) := by
 unfold eo iJ ij
 simp only [bK, decide_true, Bool.not_true, cond_false, nj]
 split <;> (try split) <;> rfl
theorem abc {x y : Int} : ij x y < 0 ↔ x < y := by unfold ij; split <;> (try split) <;> omega
theorem nQ {x y : Int} : ij x y = 0 ↔ x = y := by unfold ij; split <;> (try split) <;> omega
def orI : List Int → Int
 | [] => 0
 | x :: r => if x = 0 then orI r else x
theorem aoi (l : List Int) : mm l = some (orI l) := by
 unfold mm
 refine (sX (f := fun l _ => some (orI l)) ?_ ?_ _ _ _)
 ·intros; rfl
 ·intro j x r s Z hZ
  simp only [orI, hZ]
  by_cases h : x = 0 <;> simp [h]
def jC (a b : bf) : Int := orI [ij a.A b.A, ij a.B b.B]
theorem wj (a b : bf) : gw a b = some (jC a b) := by
 unfold gw; simp only [abb, bK, aoi]; rfl
theorem aaq (r : aP) (id : Int) : iK r id = some (ij r.ID id) := by
 unfold iK; simp only [abb, bK]
theorem vO {a b : bf} : jC a b < 0 ↔ ltL a b = true := by
 have : jC a b < 0 ↔ a.A < b.A ∨ (a.A = b.A ∧ a.B < b.B) := by
  simp only [jC, orI]
  split
  ·rename_i h
   rw [nQ] at h
   split
   ·rename_i h2; rw [nQ] at h2; omega
   ·rw [abc]; omega
  ·rename_i h
   rw [nQ] at h
   rw [abc]; omega
 rw [this]; simp [ltL]
theorem vP {a b : bf} : jC a b = 0 ↔ a.A = b.A ∧ a.B = b.B := by
 simp only [jC, orI]
 split
 ·rename_i h
  rw [nQ] at h
  split
  ·rename_i h2; rw [nQ] at h2; omega
  ·rename_i h2; rw [nQ] at h2 ⊢; omega
 ·rename_i h
  rw [nQ] at h ⊢; omega
/-! the binary search -/
def bsG {α : Type} [Inhabited α] (f : α → Int) (l : List α) (i j : Nat) : Nat :=
 if h : i < j then if f (el l ((i + j) / 2 : Nat)) < 0 then bsG f l ((i + j) / 2 + 1) j else bsG f l i ((i + j) / 2) else i
 termination_by j - i
 decreasing_by all_goals omega
def bsR {α : Type} [Inhabited α] (f : α → Int) (l : List α) : Nat := bsG f l 0 l.length
def bsT {α : Type} [Inhabited α] (f : α → Int) (l : List α) : Bool := decide (bsR f l < l.length) && decide (f (el l (bsR f l)) = 0)
theorem adb {α : Type} [Inhabited α] {f : α → Int} {l : List α} {i j : Nat} (h : i < j) (hf : f (el l ((i + j) / 2 : Nat)) < 0) : bsG f l i j = bsG f l ((i + j) / 2 + 1) j := by
 rw [bsG, dif_pos h, if_pos hf]
theorem ade {α : Type} [Inhabited α] {f : α → Int} {l : List α} {i j : Nat} (h : i < j) (hf : ¬ f (el l ((i + j) / 2 : Nat)) < 0) : bsG f l i j = bsG f l i ((i + j) / 2) := by
 rw [bsG, dif_pos h, if_neg hf]
theorem yH {α : Type} [Inhabited α] {f : α → Int} {l : List α} {i j : Nat} (h : j ≤ i) : bsG f l i j = i := by
 rw [bsG, dif_neg (by omega)]
theorem u9 {α : Type} [Inhabited α] {l : List α} {i : Nat} (h : i < l.length) : el l i = l[i] := by
 simp [el, List.getD_eq_getElem?_getD, h]
theorem adf {α : Type} [Inhabited α] {l : List α} {i : Nat} (h : i < l.length) : el l i ∈ l := by
 rw [u9 h]; exact List.getElem_mem h
theorem sZ {α : Type} [Inhabited α] {l : List α} {i : Nat} (h : i < l.length) : elO l (i : Int) = some (el l i) := by
 unfold elO; rw [if_pos (by omega), u9 h]; simp [h]
theorem abd {i j : Nat} (h : i + j ≤ 4611686018427387904) : w64 (Int.fdiv (IntKind.wrap .u64 (w64 ((i : Int) + (j : Int)))) (2 ^ min (1:Int).toNat 64)) = (((i + j) / 2 : Nat) : Int) := by
 have e1 : w64 ((i : Int) + (j : Int)) = ((i + j : Nat) : Int) := by rw [gH (by omega) (by omega)]; simp
 have e2 : IntKind.wrap .u64 ((i + j : Nat) : Int) = ((i + j : Nat) : Int) := agW (by omega) (by omega)
 rw [e1, e2]
 have e3 : (2 : Int) ^ min (1:Int).toNat 64 = 2 := rfl
 rw [e3, Int.fdiv_eq_ediv_of_nonneg _ (by omega)]
 rw [gH (by omega) (by omega)]; simp
theorem abe {α : Type} [Inhabited α] {F : ((Int × Int) → Option (Int × Bool)) → (Int × Int) → Option (Int × Bool)} (l : List α) (f : α → Int) (hl : l.length ≤ 1000000)
  (hF : ∀ (i j : Nat) Z, j ≤ l.length → F Z ((i : Int), (j : Int)) = if h : i < j then (if f (el l ((i + j) / 2 : Nat)) < 0 then Z ((((i + j) / 2 + 1 : Nat) : Int), (j : Int)) else Z ((i : Int), (((i + j) / 2 : Nat) : Int))) else some ((i : Int), decide (i < l.length) && decide (f (el l i) = 0))) :
  whl F ((0 : Int), (l.length : Int)) = some ((bsR f l : Int), bsT f l) := by
 refine Ok.eq (Ok.whl (I := fun s => ∃ i j : Nat, s = ((i : Int), (j : Int)) ∧ i ≤ j ∧ j ≤ l.length ∧ bsG f l i j = bsR f l) (μ := fun s => (s.2 - s.1).toNat) ⟨0, l.length, rfl, by omega, by omega, rfl⟩ ?_ ?_)
 ·show ((l.length : Int) - 0).toNat < _; omega
 ·rintro s Z ⟨i, j, rfl, h1, h2, h3⟩ hz
  rw [hF i j Z h2]
  split
  ·rename_i hij
   split
   ·rename_i hf
    exact hz _ ⟨_, _, rfl, by omega, h2, by rw [← h3, adb hij hf]⟩ (by show ((j : Int) - _).toNat < ((j : Int) - i).toNat; omega)
   ·rename_i hf
    exact hz _ ⟨_, _, rfl, by omega, by omega, by rw [← h3, ade hij hf]⟩ (by show ((((i + j) / 2 : Nat) : Int) - i).toNat < ((j : Int) - i).toNat; omega)
  ·rename_i hij
   have : bsR f l = i := by rw [← h3, yH (by omega)]
   exact ⟨_, rfl, by simp only [bsT, this]⟩
theorem aoj (l : List aP) (x : Int) (c : aP → Int → Option Int) (f : aP → Int) (hl : l.length ≤ 1000000) (hc : ∀ r, c r x = some (f r)) : cc l x c = some ((bsR f l : Int), bsT f l) := by
 unfold cc
 refine abe l f hl fun i j Z hj => ?_
 by_cases hij : i < j
 ·rw [dif_pos hij]
  simp only [abd (i := i) (j := j) (by omega), sZ (show (i + j) / 2 < l.length by omega), bK, hc, nj]
  rw [if_pos (by omega), gH (by omega) (by omega)]
  rfl
 ·rw [dif_neg hij]
  simp only [nj]
  rw [if_neg (by omega)]
  by_cases hi : i < l.length
  ·rw [if_pos (by omega), sZ hi]; simp only [bK, hc]; simp [hi]
  ·rw [if_neg (by omega)]; simp [hi]
theorem bsLk (l : List bf) (x : bf) (c : bf → bf → Option Int) (f : bf → Int) (hl : l.length ≤ 1000000) (hc : ∀ r, c r x = some (f r)) : cu l x c = some ((bsR f l : Int), bsT f l) := by
 unfold cu
 refine abe l f hl fun i j Z hj => ?_
 by_cases hij : i < j
 ·rw [dif_pos hij]
  simp only [abd (i := i) (j := j) (by omega), sZ (show (i + j) / 2 < l.length by omega), bK, hc, nj]
  rw [if_pos (by omega), gH (by omega) (by omega)]
  rfl
 ·rw [dif_neg hij]
  simp only [nj]
  rw [if_neg (by omega)]
  by_cases hi : i < l.length
  ·rw [if_pos (by omega), sZ hi]; simp only [bK, hc]; simp [hi]
  ·rw [if_neg (by omega)]; simp [hi]
theorem afx {α : Type} [Inhabited α] {f : α → Int} {l : List α} (hm : ∀ a b : Nat, a ≤ b → b < l.length → f (el l a) ≤ f (el l b)) : ∀ (n i j : Nat), j - i ≤ n → i ≤ j → j ≤ l.length → (∀ m : Nat, m < i → f (el l m) < 0) → (∀ m : Nat, j ≤ m → m < l.length → 0 ≤ f (el l m)) →
  bsG f l i j ≤ l.length ∧ (∀ m : Nat, m < bsG f l i j → f (el l m) < 0) ∧ (∀ m : Nat, bsG f l i j ≤ m → m < l.length → 0 ≤ f (el l m)) := by
 intro n
 induction n with
 | zero =>
  intro i j hn hij hj h1 h2
  rw [yH (by omega)]
  exact ⟨by omega, h1, fun m hm' => h2 m (by omega)⟩
 | succ n ih =>
  intro i j hn hij hj h1 h2
  by_cases h : i < j
  ·by_cases hf : f (el l ((i + j) / 2 : Nat)) < 0
   ·rw [adb h hf]
    refine ih _ _ (by omega) (by omega) hj (fun m hm' => ?_) h2
    have := hm m ((i + j) / 2) (by omega) (by omega)
    omega
   ·rw [ade h hf]
    refine ih _ _ (by omega) (by omega) (by omega) h1 (fun m hm' hml => ?_)
    have := hm ((i + j) / 2) m hm' hml
    omega
  ·rw [yH (by omega)]
   exact ⟨by omega, h1, fun m hm' => h2 m (by omega)⟩
theorem afy {α : Type} [Inhabited α] {f : α → Int} {l : List α} (hm : ∀ a b : Nat, a ≤ b → b < l.length → f (el l a) ≤ f (el l b)) :
  bsR f l ≤ l.length ∧ (∀ m : Nat, m < bsR f l → f (el l m) < 0) ∧ (∀ m : Nat, bsR f l ≤ m → m < l.length → 0 ≤ f (el l m)) :=
 afx hm l.length 0 l.length (by omega) (by omega) (by omega) (fun m h => by omega) (fun m h1 h2 => by omega)
theorem abf {α : Type} [Inhabited α] {f : α → Int} {l : List α} (hm : ∀ a b : Nat, a ≤ b → b < l.length → f (el l a) ≤ f (el l b)) : bsT f l = true ↔ ∃ x ∈ l, f x = 0 := by
 obtain ⟨h1, h2, h3⟩ := afy hm
 simp only [bsT, Bool.and_eq_true, decide_eq_true_eq]
 constructor
 ·rintro ⟨q1, q2⟩
  exact ⟨_, adf q1, q2⟩
 ·rintro ⟨x, hx, hf⟩
  obtain ⟨m, hm1, rfl⟩ := List.getElem_of_mem hx
  rw [← u9 hm1] at hf
  have hle : bsR f l ≤ m := by
   by_cases q : m < bsR f l
   ·have := h2 m q; omega
   ·omega
  have hlt : bsR f l < l.length := by omega
  have := h3 _ (Nat.le_refl _) hlt
  have := hm _ _ hle hm1
  exact ⟨hlt, by omega⟩
theorem rA {α : Type} [Inhabited α] {f : α → Int} {l : List α} (h : l.Pairwise (fun a b => f a ≤ f b)) : ∀ a b : Nat, a ≤ b → b < l.length → f (el l a) ≤ f (el l b) := by
 intro a b hab hb
 rcases Nat.lt_or_eq_of_le hab with hab | rfl
 ·have := List.pairwise_iff_getElem.1 h a b (by omega) hb hab
  rwa [u9 (by omega), u9 hb]
 ·exact Int.le_refl _
theorem oF {α : Type} {p : α → α → Bool} (ht : ∀ a b c, p a b = true → p b c = true → p a c = true) : ∀ {l : List α}, lH p l = true → l.Pairwise (fun a b => p a b = true)
 | [], _ => List.Pairwise.nil
 | [x], _ => by simp
 | a :: b :: r, h => by
  simp only [lH, Bool.and_eq_true] at h
  have ih := oF ht h.2
  rw [List.pairwise_cons]
  refine ⟨fun z hz => ?_, ih⟩
  rcases List.mem_cons.1 hz with rfl | hz
  ·exact h.1
  ·exact ht _ _ _ h.1 ((List.pairwise_cons.1 ih).1 z hz)
theorem mw {α : Type} {p : α → α → Bool} : ∀ {l : List α}, l.Pairwise (fun a b => p a b = true) → lH p l = true
 | [], _ => rfl
 | [x], _ => rfl
 | a :: b :: r, h => by
  rw [List.pairwise_cons] at h
  simp only [lH, Bool.and_eq_true]
  exact ⟨h.1 b (by simp), mw h.2⟩
theorem adg {t : aa} (h : kB t = true) : t.aC.Pairwise (fun a b => a.ID < b.ID) := by
 have := oF (p := fun a b : aP => decide (a.ID < b.ID)) (fun a b c h1 h2 => by simp at h1 h2 ⊢; omega) h
 exact this.imp (fun h => by simpa using h)
theorem akA {t : aa} (h : kB t = true) (id : Int) : ∀ a b : Nat, a ≤ b → b < t.aC.length → ij (el t.aC a).ID id ≤ ij (el t.aC b).ID id :=
 rA (f := fun r : aP => ij r.ID id) ((adg h).imp (fun {a b} h => by unfold ij; split <;> (try split) <;> (try split) <;> (try split) <;> omega))
def afz (t : aa) (id : Int) : Bool := !bsT (fun r => ij r.ID id) t.aC
theorem abg {t : aa} (h : kB t = true) (id : Int) : afz t id = !hasB t id := by
 simp only [afz, hasB]
 congr 1
 rw [Bool.eq_iff_iff, abf (akA h id)]
 simp [nQ]
theorem va (t : aa) : gp t = some (jb t) := by
 unfold gp jb
 by_cases hlen : (decide (24 < (t.aC.length : Int)) || decide (60 < (t.Links.length : Int))) = true
 ·rw [hlen]; rfl
 rw [Bool.not_eq_true] at hlen
 rw [hlen]
 simp only [cond_false]
 simp only [Bool.or_eq_false_iff, decide_eq_false_iff_not] at hlen
 rw [cfR t.aC _ u0 (fun x => by simp only [jN, gR, bK, u0]; congr 1; rw [Bool.eq_iff_iff]; simp)]
 simp only [bK]
 unfold kA
 cases t.aC.any u0
 case true => rfl
 simp only [cond_false]
 refine (zm (fun a b : aP => decide (a.ID < b.ID)) (some 25) ?_ ?_ _).trans ?_
 ·intros; rfl
 ·intro j x y r q s Z h hj
  simp only [jn, o9 h hj (by omega), bK, nj]
  rw [if_pos (by omega)]
  split <;> split <;> first | rfl | omega
 cases hB : kB t
 case false => unfold kB at hB; rw [hB]; rfl
 have hB' := hB
 unfold kB at hB'
 rw [hB']
 simp only [cond_true]
 rw [cfL t.Links iE pZ (fun x => by
  simp only [iE, gR, bK, pZ, rX]
  simp only [nj, Bool.not_and, Bool.cond_eq_ite, Bool.or_eq_true, Bool.not_eq_true', decide_eq_false_iff_not]
  split
  ·congr 1; symm; rw [Bool.eq_iff_iff]; simp; omega
  ·split
   ·congr 1; symm; rw [Bool.eq_iff_iff]; simp; omega
   ·congr 1; rw [Bool.eq_iff_iff]; simp; omega)]
 simp only [bK]
 unfold kC
 cases t.Links.any pZ
 case true => rfl
 simp only [cond_false]
 have hu : ∀ id, gx id t = some (!hasB t id) := fun id => by
  unfold gx
  rw [aoj t.aC id _ (fun r => ij r.ID id) (by omega) (fun r => aaq r id)]
  simp only [bK]
  rw [← abg hB]; rfl
 rw [cfL t.Links _ (fun l => !hasB t l.A || !hasB t l.B) (fun x => by
  simp only [jO, hu, bK]
  cases hasB t x.A <;> rfl)]
 simp only [bK]
 unfold kD
 cases t.Links.any _
 case true => rfl
 simp only [cond_false]
 rw [cfL t.Links jP (fun l => decide (l.B ≤ l.A)) (fun x => rfl)]
 simp only [bK]
 unfold kE
 cases t.Links.any _
 case true => rfl
 simp only [cond_false]
 refine (zm ltL (some 25) ?_ ?_ _).trans ?_
 ·intros; rfl
 ·intro j x y r q s Z h hj
  simp only [jn, o9 h hj (by omega), bK, wj, nj]
  rw [if_pos (by omega)]
  cases hlt : ltL y x
  ·have : ¬ jC y x < 0 := by rw [vO, hlt]; simp
   rw [if_pos (by omega)]; rfl
  ·have := vO.2 hlt
   rw [if_neg (by omega)]; rfl
 unfold kF
 cases lH ltL t.Links <;> rfl
end Go.Proofs.Ytdjeacigeegklaa

/- Plain: what the tape's readers give. No condition. -/
namespace Go.Proofs.Ytdjeacigeegklaa
set_option linter.all false
open Go
end Go.Proofs.Ytdjeacigeegklaa

/- Plain: valid tL, what is left yy a failure, and what is looked up. No condition. -/
namespace Go.Proofs.Ytdjeacigeegklaa
set_option linter.all false
open Go
/-! ## lists -/
theorem akB {α : Type} [DecidableEq α] {l : List α} {v : α} : l.any (fun x => decide (x = v)) = decide (v ∈ l) := by
 rw [Bool.eq_iff_iff]; simp
/-- a loop aY keeps some -/
theorem rZ {α γ β : Type} {B : Int → α → (List γ → Option β) → List γ → Option β} {K : List γ → Option β} (p : α → Bool) (f : α → γ) :
  ∀ (l : List α) (j : Nat) (s : List γ), (∀ (j : Nat) x Z s, x ∈ l → s.length < 1000000 → B j x Z s = bif p x then Z (s ++ [f x]) else Z s) → l.length + s.length ≤ 1000000 → bY l j B K s = K (s ++ (l.filter p).map f)
 | [], j, s, _, _ => by simp [bY]
 | x :: r, j, s, hB, h => by
  simp only [List.length_cons] at h
  simp only [bY]
  rw [hB j x _ s (by simp) (by omega)]
  have hB' : ∀ (j : Nat) y Z s, y ∈ r → s.length < 1000000 → B j y Z s = bif p y then Z (s ++ [f y]) else Z s := fun j y Z s hy => hB j y Z s (by simp [hy])
  cases hp : p x
  ·rw [cond_false, rZ p f r (j + 1) s hB' (by omega), List.filter_cons_of_neg (by simp [hp])]
  ·rw [cond_true, rZ p f r (j + 1) (s ++ [f x]) hB' (by simp; omega), List.filter_cons_of_pos hp]
   simp
theorem p8 {α : Type} {s : List α} {x : α} (h : s.length < 1000000) : eR s [x] = some (s ++ [x]) := yG (by simp; omega)
/-! ## valid tL -/
structure Vt (t : aa) : Prop where
 nr : t.aC.length ≤ 24
 nl : t.Links.length ≤ 60
 idr : ∀ r ∈ t.aC, 1 ≤ r.ID ∧ r.ID ≤ 99
 asc : t.aC.Pairwise (fun a b => a.ID < b.ID)
 okl : ∀ l ∈ t.Links, pZ l = false
 ends : ∀ l ∈ t.Links, hasB t l.A = true ∧ hasB t l.B = true
 lt : ∀ l ∈ t.Links, l.A < l.B
 ace : t.Links.Pairwise (fun a b => ltL a b = true)
theorem adh (a b c : bf) (h1 : ltL a b = true) (h2 : ltL b c = true) : ltL a c = true := by
 simp [ltL] at *; omega
theorem any_false {α : Type} {l : List α} {p : α → Bool} : l.any p = false ↔ ∀ x ∈ l, p x = false := by
 rw [List.any_eq_false]; simp
theorem nk {t : aa} : jb t = 0 ↔ Vt t := by
 unfold jb
 constructor
 ·intro h
  by_cases h1 : (decide (24 < (t.aC.length : Int)) || decide (60 < (t.Links.length : Int))) = true
  ·rw [h1] at h; cases h
  simp only [Bool.not_eq_true] at h1
  rw [h1, cond_false] at h
  cases h2 : kA t <;> rw [h2] at h <;> first | cases h; done | skip
  cases h3 : kB t <;> rw [h3] at h <;> first | cases h; done | skip
  cases h4 : kC t <;> rw [h4] at h <;> first | cases h; done | skip
  cases h5 : kD t <;> rw [h5] at h <;> first | cases h; done | skip
  cases h6 : kE t <;> rw [h6] at h <;> first | cases h; done | skip
  cases h7 : kF t <;> rw [h7] at h <;> first | cases h; done | skip
  simp only [Bool.or_eq_false_iff, decide_eq_false_iff_not] at h1
  refine ⟨by omega, by omega, fun r hr => ?_, adg h3, any_false.1 h4, fun l hl => ?_, fun l hl => ?_, oF adh h7⟩
  ·have := any_false.1 h2 r hr; simp [u0] at this; omega
  ·have := any_false.1 h5 l hl; simpa using this
  ·have := any_false.1 h6 l hl; simpa using this
 ·intro h
  have h1 : (decide (24 < (t.aC.length : Int)) || decide (60 < (t.Links.length : Int))) = false := by
   have := h.nr; have := h.nl; simp; omega
  have h2 : kA t = false := any_false.2 fun r hr => by have := h.idr r hr; simp [u0]; omega
  have h3 : kB t = true := mw (h.asc.imp fun h => by simpa using h)
  have h4 : kC t = false := any_false.2 h.okl
  have h5 : kD t = false := any_false.2 fun l hl => by have := h.ends l hl; simp [this]
  have h6 : kE t = false := any_false.2 fun l hl => by have := h.lt l hl; simp; omega
  have h7 : kF t = true := mw h.ace
  rw [h1, h2, h3, h4, h5, h6, h7]; rfl
theorem zo (t : aa) : gY t = some (decide (jb t = 0)) := by
 unfold gY; rw [va]; rfl
theorem xm {t : aa} {r : Int} : hasB t r = true ↔ ∃ x ∈ t.aC, x.ID = r := by simp [hasB]
/-! ## yy -/
/-! ## has, capable, cost -/
def acf (t : aa) (r : Int) : aP × Bool := if bsT (fun x : aP => ij x.ID r) t.aC then (el t.aC (bsR (fun x : aP => ij x.ID r) t.aC), true) else (aP.mk 0 false, false)
theorem afA (t : aa) (r : Int) (hl : t.aC.length ≤ 1000000) : jQ t r = some (acf t r) := by
 unfold jQ acf
 rw [aoj t.aC r _ (fun x => ij x.ID r) hl (fun x => aaq x r)]
 simp only [bK]
 cases h : bsT (fun x : aP => ij x.ID r) t.aC
 ·rfl
 ·have h2 : bsR (fun x : aP => ij x.ID r) t.aC < t.aC.length := by
   simp only [bsT, Bool.and_eq_true, decide_eq_true_eq] at h; exact h.1
  simp only [Bool.not_true, cond_false, sZ h2, bK, if_true]
theorem akC {t : aa} (h : Vt t) (r : Int) : bsT (fun x : aP => ij x.ID r) t.aC = hasB t r := by
 have := abg (t := t) (mw (h.asc.imp fun h => by simpa using h)) r
 simpa [afz] using this
theorem akD (t : aa) (r : Int) (hl : t.aC.length ≤ 1000000) : kJ t r = some (decide (jb t = 0) && hasB t r) := by
 unfold kJ
 simp only [afA t r hl, zo, bK]
 by_cases h : jb t = 0
 ·simp only [h, decide_true, cond_true, Bool.true_and, acf, akC (nk.1 h)]
  cases hasB t r <;> rfl
 ·simp [h]
/-- the first aY does -/
theorem zp {α σ β : Type} {B : Int → α → (σ → Option β) → σ → Option β} {K : σ → Option β} (p : α → Bool) (g : α → Option β) (hB : ∀ j x Z s, B j x Z s = bif p x then g x else Z s) (l : List α) (j : Nat) (s : σ) :
  bY l j B K s = match l.find? p with | some x => g x | none => K s :=
 sX (f := fun l s => match l.find? p with | some x => g x | none => K s) (fun s => rfl) (fun j x r s Z hZ => by
  rw [hB, hZ, List.find?_cons]; cases p x <;> rfl) l j s
theorem aok {t : aa} (h : Vt t) {a b : bf} (ha : a ∈ t.Links) (hb : b ∈ t.Links) (hA : a.A = b.A) (hB : a.B = b.B) : a = b := by
 obtain ⟨i, hi, rfl⟩ := List.getElem_of_mem ha
 obtain ⟨j, hj, rfl⟩ := List.getElem_of_mem hb
 have := List.pairwise_iff_getElem.1 h.ace
 rcases Nat.lt_trichotomy i j with q | q | q
 ·have := this i j hi hj q; simp [ltL] at this; omega
 ·subst q; rfl
 ·have := this j i hj hi q; simp [ltL] at this; omega
def dX (l : bf) (a b : Int) : Bool := (decide (l.A = a) && decide (l.B = b)) || (decide (l.B = a) && decide (l.A = b))
def iM (a b : Int) (l : bf) : Int × Bool := (bif decide (l.A = a) && decide (l.B = b) then l.jL else l.jM, true)
def jq (t : aa) (a b : Int) : Int × Bool := match t.Links.find? (fun l => dX l a b) with | some l => iM a b l | none => (0, false)
def kW (t : aa) (a b : Int) : Bool := t.Links.any fun l => dX l a b
theorem adi (t : aa) (a b : Int) : lP t a b = some (jq t a b) := by
 unfold lP jq
 refine (zp (fun l : bf => dX l a b) (fun l => some (iM a b l)) (fun j x Z s => ?_) _ _ _).trans ?_
 ·unfold dX iM
  cases decide (x.A = a) && decide (x.B = b) <;> cases decide (x.B = a) && decide (x.A = b) <;> rfl
 ·cases t.Links.find? _ <;> rfl
theorem zq (t : aa) (a b : Int) : (jq t a b).2 = kW t a b := by
 unfold jq kW
 cases hf : t.Links.find? (fun l => dX l a b) with
 | none => symm; exact any_false.2 fun x hx => by simpa using List.find?_eq_none.1 hf x hx
 | some x =>
  symm
  exact List.any_eq_true.2 ⟨x, List.mem_of_find?_eq_some hf, by simpa using List.find?_some hf⟩
theorem j8 {t : aa} (h : Vt t) {a b : Int} {l : bf} (hm : l ∈ t.Links) (he : dX l a b = true) : jq t a b = iM a b l := by
 unfold jq
 cases hf : t.Links.find? (fun l => dX l a b) with
 | none => exact absurd he (List.find?_eq_none.1 hf l hm)
 | some x =>
  have hx := List.mem_of_find?_eq_some hf
  have hp := List.find?_some hf
  have h1 := h.lt _ hm
  have h2 := h.lt _ hx
  simp [dX] at he hp
  rw [aok h hx hm (by omega) (by omega)]
theorem akE {t : aa} (h : Vt t) (v : bf) : ∀ a b : Nat, a ≤ b → b < t.Links.length → jC (el t.Links a) v ≤ jC (el t.Links b) v := by
 refine rA (f := fun l : bf => jC l v) (h.ace.imp fun {a b} hab => ?_)
 have c3 : ∀ x y : Int, ij x y = -1 ∨ ij x y = 0 ∨ ij x y = 1 := fun x y => by
  unfold ij; split
  ·exact .inl rfl
  ·split
   ·exact .inr (.inr rfl)
   ·exact .inr (.inl rfl)
 have : ∀ x y : bf, jC x y = -1 ∨ jC x y = 0 ∨ jC x y = 1 := fun x y => by
  have q1 := c3 x.A y.A
  have q2 := c3 x.B y.B
  simp only [jC, orI]
  generalize ij x.A y.A = p at *
  generalize ij x.B y.B = q at *
  by_cases h1 : p = 0
  ·by_cases h2 : q = 0 <;> simp [h1, h2]; omega
  ·simp [h1]; omega
 have h1 := @vO a v
 have h2 := @vO b v
 have h3 := @vP a v
 have h4 := @vP b v
 have q1 := this a v
 have q2 := this b v
 simp [ltL] at hab h1 h2
 omega
theorem afB (t : aa) (a b : Int) (hl : t.Links.length ≤ 1000000) : jR t a b = some (if jb t = 0 then jq t a b else (0, false)) := by
 unfold jR
 simp only [zo, bK]
 by_cases h : jb t = 0
 ·have hv := nk.1 h
  simp only [h, decide_true, Bool.not_true, cond_false, if_true]
  generalize hv2 : bf.mk (if b < a then b else a) (if b > a then b else a) 0 0 0 = v
  rw [bsLk t.Links v _ (fun x => jC x v) hl (fun x => wj x v)]
  simp only [bK]
  have hA : v.A = if b < a then b else a := by rw [← hv2]
  have hB : v.B = if b > a then b else a := by rw [← hv2]
  cases hT : bsT (fun x : bf => jC x v) t.Links
  ·simp only [Bool.not_false, cond_true]
   congr 1
   unfold jq
   cases hf : t.Links.find? (fun l => dX l a b) with
   | none => rfl
   | some x =>
    exfalso
    have hx := List.mem_of_find?_eq_some hf
    have hp := List.find?_some hf
    have h2 := h
    have := (abf (f := fun x : bf => jC x v) (akE hv v)).2 ⟨x, hx, by
     rw [vP, hA, hB]
     have := hv.lt _ hx
     simp [dX] at hp
     split <;> split <;> omega⟩
    rw [hT] at this; cases this
  ·simp only [bsT, Bool.and_eq_true, decide_eq_true_eq] at hT
   obtain ⟨q1, q2⟩ := hT
   rw [vP, hA, hB] at q2
   have hm := adf q1
   simp only [Bool.not_true, cond_false, sZ q1, bK]
   have hlt := hv.lt _ hm
   have e : dX (el t.Links (bsR (fun x : bf => jC x v) t.Links)) a b = true := by
    simp [dX]; by_cases q3 : b < a <;> by_cases q4 : b > a <;> simp only [q3, q4, if_true, if_false] at q2 <;> omega
   rw [j8 hv hm e]
   unfold iM
   by_cases hab : a < b
   ·have : decide (a < b) = true := by simpa using hab
    rw [this, cond_true]
    have : (decide ((el t.Links (bsR (fun x : bf => jC x v) t.Links)).A = a) && decide ((el t.Links (bsR (fun x : bf => jC x v) t.Links)).B = b)) = true := by
     simp; by_cases q3 : b < a <;> by_cases q4 : b > a <;> simp only [q3, q4, if_true, if_false] at q2 <;> omega
    rw [this]; rfl
   ·have : decide (a < b) = false := by simpa using hab
    rw [this, cond_false]
    have : (decide ((el t.Links (bsR (fun x : bf => jC x v) t.Links)).A = a) && decide ((el t.Links (bsR (fun x : bf => jC x v) t.Links)).B = b)) = false := by
     simp; by_cases q3 : b < a <;> by_cases q4 : b > a <;> simp only [q3, q4, if_true, if_false] at q2 <;> omega
    rw [this]; rfl
 ·simp [h]
/-! ## acd -/
def ids (t : aa) : List Int := t.aC.map (·.ID)
theorem ve {t : aa} (h : Vt t) : (ids t).Pairwise (· < ·) := List.pairwise_map.2 h.asc
theorem nR {t : aa} {r : Int} : r ∈ ids t ↔ hasB t r = true := by rw [xm]; simp [ids]
theorem jH {t : aa} {a b : Int} : kW t a b = true ↔ ∃ l ∈ t.Links, (l.A = a ∧ l.B = b) ∨ (l.B = a ∧ l.A = b) := by
 simp [kW, dX]
theorem aar {t : aa} {a b : Int} (h : kW t a b = true) : kW t b a = true := by
 rw [jH] at h ⊢
 obtain ⟨l, hl, h⟩ := h
 exact ⟨l, hl, by omega⟩
theorem aol {t : aa} (hv : Vt t) {a b : Int} (h : kW t a b = true) : a ≠ b := by
 rw [jH] at h
 obtain ⟨l, hl, h⟩ := h
 have := hv.lt l hl
 omega
theorem qt {t : aa} (hv : Vt t) {a b : Int} (h : kW t a b = true) : b ∈ ids t := by
 rw [jH] at h
 obtain ⟨l, hl, h⟩ := h
 have := hv.ends l hl
 rcases h with ⟨h1, h2⟩ | ⟨h1, h2⟩ <;> rw [nR, ← h2]
 ·exact this.2
 ·exact this.1
def lI (t : aa) (r : Int) : List Int := (ids t).filter fun x => kW t r x
theorem xo {t : aa} (hv : Vt t) (r : Int) : (lI t r).Pairwise (· < ·) := (ve hv).sublist List.filter_sublist
theorem r9 {t : aa} (hv : Vt t) {r x : Int} : x ∈ lI t r ↔ kW t r x = true := by
 unfold lI; rw [List.mem_filter]
 exact ⟨fun h => h.2, fun h => ⟨qt hv h, h⟩⟩
theorem afC {t : aa} (hv : Vt t) (r : Int) : mj t r = some (lI t r) := by
 unfold mj
 have := hv.nr
 refine (rZ (fun x : aP => kW t r x.ID) (·.ID) _ _ _ ?_ (by simp; omega)).trans ?_
 ·intro j x Z s _ hs
  simp only [jn, adi, zq, bK, p8 hs]
 ·simp only [List.nil_append, lI, ids]
  rw [List.filter_map]; rfl
/-- the other end of each link of a bW -/
def fF (r : Int) (l : bf) : Option Int := if r = l.A then some l.B else if r = l.B then some l.A else none
theorem sF {t : aa} (hv : Vt t) (r : Int) : (t.Links.filterMap (fF r)).Nodup := by
 have key : ∀ l : List bf, (∀ x ∈ l, x.A < x.B) → l.Pairwise (fun a b => ltL a b = true) → (l.filterMap (fF r)).Nodup := by
  intro l
  induction l with
  | nil => intros; simp
  | cons x l ih =>
   intro h1 h2
   rw [List.pairwise_cons] at h2
   have ih := ih (fun y hy => h1 y (by simp [hy])) h2.2
   cases hx : fF r x with
   | none => rw [List.filterMap_cons_none hx]; exact ih
   | some y =>
    rw [List.filterMap_cons_some hx, List.nodup_cons]
    refine ⟨fun hm => ?_, ih⟩
    obtain ⟨z, hz, hzy⟩ := List.mem_filterMap.1 hm
    have h3 := h2.1 z hz
    have h4 := h1 x (by simp)
    have h5 := h1 z (by simp [hz])
    unfold fF at hx hzy
    simp [ltL] at h3
    split at hx <;> split at hzy <;> (try split at hx) <;> (try split at hzy) <;> simp at hx hzy <;> omega
 exact key _ hv.lt hv.ace
theorem adj {t : aa} {r x : Int} (hv : Vt t) : x ∈ t.Links.filterMap (fF r) ↔ kW t r x = true := by
 rw [List.mem_filterMap, jH]
 constructor
 ·rintro ⟨l, hl, h⟩
  unfold fF at h
  refine ⟨l, hl, ?_⟩
  split at h
  ·simp at h; omega
  ·split at h
   ·simp at h; omega
   ·cases h
 ·rintro ⟨l, hl, h⟩
  refine ⟨l, hl, ?_⟩
  have := hv.lt l hl
  unfold fF
  rcases h with h | h
  ·rw [if_pos (by omega), h.2]
  ·rw [if_neg (by omega), if_pos (by omega), h.2]
theorem yI (t : aa) (r : Int) : iD t r = some (if jb t = 0 then lI t r else []) := by
 unfold iD
 simp only [zn, bK]
 by_cases h : jb t = 0
 ·simp [h, afC (nk.1 h), bK]
 ·simp [h]
end Go.Proofs.Ytdjeacigeegklaa

/- Plain: who is connected with whom. No condition. -/
namespace Go.Proofs.Ytdjeacigeegklaa
set_option linter.all false
open Go
/-- a loop, with what was aom -/
theorem Ok.vf {α σ β : Type} {B : Int → α → (σ → Option β) → σ → Option β} {K : σ → Option β} {Q : β → Prop} (I : List α → σ → Prop) {L : List α}
  (hc : ∀ (p : List α) x r s Z, L = p ++ x :: r → I p s → (∀ s', I (p ++ [x]) s' → Ok (Z s') Q) → Ok (B (p.length : Int) x Z s) Q) (s : σ) (h : I [] s) (hn : ∀ s, I L s → Ok (K s) Q) : Ok (Go.Proofs.Ytdjeacigeegklaa.bY L 0 B K s) Q := by
 have key : ∀ (l p : List α) (s : σ), L = p ++ l → I p s → Ok (Go.Proofs.Ytdjeacigeegklaa.bY l p.length B K s) Q := by
  intro l
  induction l with
  | nil => intro p s hj h; exact hn s (by rw [hj, List.append_nil]; exact h)
  | cons x r ih =>
   intro p s hj h
   refine hc p x r s _ hj h fun s' h' => ?_
   have := ih (p ++ [x]) s' (by simp [hj]) h'
   rwa [List.length_append] at this
 exact key L [] s rfl h
theorem si {a b : List Int} (h : a.Nodup) (hs : ∀ x ∈ a, x ∈ b) : a.length ≤ b.length := by
 induction a generalizing b with
 | nil => simp
 | cons x a ih =>
  rw [List.nodup_cons] at h
  have hx := hs x (by simp)
  have := ih (b := b.erase x) h.2 fun y hy => (List.mem_erase_of_ne (fun e => h.1 (by rw [← e]; exact hy))).2 (hs y (by simp [hy]))
  rw [List.length_erase_of_mem hx] at this
  have := List.length_pos_of_mem hx
  simp only [List.length_cons]; omega
inductive Cn (t : aa) (c : List Int) : Int → Int → Prop
 | refl {a : Int} (h : a ∉ c) : Cn t c a a
 | step {a b d : Int} (h : Cn t c a b) (ha : kW t b d = true) (hd : d ∉ c) : Cn t c a d
theorem Cn.trans {t : aa} {c : List Int} {a b d : Int} (h1 : Cn t c a b) (h2 : Cn t c b d) : Cn t c a d := by
 induction h2 with
 | refl _ => exact h1
 | step _ ha hd ih => exact .step ih ha hd
theorem Cn.left {t : aa} {c : List Int} {a b : Int} (h : Cn t c a b) : a ∉ c := by
 induction h with
 | refl h => exact h
 | step _ _ _ ih => exact ih
theorem Cn.right {t : aa} {c : List Int} {a b : Int} (h : Cn t c a b) : b ∉ c := by
 cases h with
 | refl h => exact h
 | step _ _ hd => exact hd
theorem Cn.symm {t : aa} {c : List Int} {a b : Int} (h : Cn t c a b) : Cn t c b a := by
 induction h with
 | refl h => exact .refl h
 | step h ha hd ih => exact (Cn.step (.refl hd) (aar ha) h.right).trans ih
theorem Cn.ids {t : aa} (hv : Vt t) {c : List Int} {a b : Int} (h : Cn t c a b) (ha : a ∈ ids t) : b ∈ ids t := by
 cases h with
 | refl h => exact ha
 | step _ hd _ => exact qt hv hd
theorem vQ {t : aa} (hv : Vt t) : (ids t).length ≤ 24 := by have := hv.nr; simpa [ids] using this
end Go.Proofs.Ytdjeacigeegklaa

/- Plain: components, akF and cuts. No condition. -/
namespace Go.Proofs.Ytdjeacigeegklaa
set_option linter.all false
open Go
/-! ## connected -/
/-! ## components -/
theorem eC {α : Type} (l : List (Int × α)) (n m : Int) (b : α) : aD (bB l n b) m = if m = n then some b else aD l m := by
 induction l with
 | nil =>
  simp only [bB, aD, List.find?]
  by_cases h : n = m
  ·simp [h]
  ·simp [h, Ne.symm h]
 | cons p r ih =>
  simp only [bB]
  by_cases h1 : p.1 = n
  ·rw [if_pos h1]
   simp only [aD, List.find?] at ih ⊢
   by_cases h2 : n = m
   ·simp [h2]
   ·have : p.1 ≠ m := by omega
    simp [h2, this, Ne.symm h2]
  ·rw [if_neg h1]
   simp only [aD, List.find?] at ih ⊢
   by_cases h2 : p.1 = m
   ·have : m ≠ n := by omega
    simp [h2, this]
   ·simp [h2]; exact ih
theorem afD {α : Type} {l : List (Int × α)} {n : Int} {b : α} (h : aD l n = none) : (bB l n b).length = l.length + 1 := by
 induction l with
 | nil => rfl
 | cons p r ih =>
  simp only [aD, List.find?] at h
  by_cases h1 : p.1 = n
  ·simp [h1] at h
  ·simp only [bB, if_neg h1, List.length_cons]
   rw [ih (by simpa [aD, h1] using h)]
/-! ## akF -/
/-! ## cuts -/
end Go.Proofs.Ytdjeacigeegklaa
