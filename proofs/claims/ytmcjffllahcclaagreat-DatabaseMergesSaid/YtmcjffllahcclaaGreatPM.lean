/- Several texts in one. No condition but those that stand in each. -/
import Derived.Test.YtmcjffllahcclaaGreatBA
import Derived.Test.YtmcjffllahcclaaGreatDA
/- Plain facts on the words in which the program is written anew. No program in sight. No condition. -/
namespace Go.Proofs.YtmcjffllahcclaaGreat
set_option linter.all false
open Go

theorem bnd_s {α β : Type} (a : α) (k : α → Option β) : bnd (some a) k = k a := rfl
theorem chk_t {β : Type} {c : Bool} {k : Option β} (h : c = true) : chk c k = k := by subst h; rfl
theorem cond_d {α : Type} {p : Prop} [Decidable p] {x y : α} : (bif decide p then x else y) = if p then x else y := by
  by_cases h : p <;> simp [h]

/-- a loop along a list comes to what 'f' says -/
theorem forI_eq {α σ β : Type} {B : Int → α → (σ → Option β) → σ → Option β} {K : σ → Option β} (f : List α → σ → Option β) (hn : ∀ s, K s = f [] s)
    (hc : ∀ (j : Int) x r s Z, (∀ s', Z s' = f r s') → B j x Z s = f (x :: r) s) : ∀ (l : List α) (j : Nat) (s : σ), forI l j B K s = f l s
  | [], _, s => hn s
  | x :: r, j, s => hc j x r s _ fun s' => forI_eq f hn hc r (j + 1) s'
/-- what is so of a result -/
def Ok {β : Type} (o : Option β) (Q : β → Prop) : Prop := ∃ r, o = some r ∧ Q r
theorem Ok.s {β : Type} {Q : β → Prop} {r : β} (h : Q r) : Ok (some r) Q := ⟨r, rfl, h⟩
theorem Ok.bnd {α β : Type} {o : Option α} {k : α → Option β} {P : α → Prop} {Q : β → Prop} (h : Ok o P) (hk : ∀ a, P a → Ok (k a) Q) : Ok (bnd o k) Q := by
  obtain ⟨a, rfl, ha⟩ := h; exact hk a ha
theorem Ok.cs {β : Type} {c : Bool} {x y : Option β} {Q : β → Prop} (h1 : c = true → Ok x Q) (h2 : c = false → Ok y Q) : Ok (bif c then x else y) Q := by
  cases c
  · exact h2 rfl
  · exact h1 rfl
theorem Ok.chk {β : Type} {c : Bool} {k : Option β} {Q : β → Prop} (h : c = true) (hk : Ok k Q) : Ok (chk c k) Q := by subst h; exact hk
theorem Ok.jn {σ β : Type} {k : σ → Option β} {t : (σ → Option β) → Option β} {Q : β → Prop} (R : σ → Prop) (h1 : ∀ s, R s → Ok (k s) Q) (h2 : ∀ J, (∀ s, R s → Ok (J s) Q) → Ok (t J) Q) : Ok (jn k t) Q := h2 k h1
theorem Ok.mono {β : Type} {o : Option β} {Q Q' : β → Prop} (h : Ok o Q) (hq : ∀ r, Q r → Q' r) : Ok o Q' := by
  obtain ⟨r, h1, h2⟩ := h; exact ⟨r, h1, hq r h2⟩
theorem Ok.forI {α σ β : Type} {B : Int → α → (σ → Option β) → σ → Option β} {K : σ → Option β} {Q : β → Prop} (I : Nat → σ → Prop)
    (hc : ∀ (j : Nat) x s Z, I j s → (∀ s', I (j + 1) s' → Ok (Z s') Q) → Ok (B (j : Int) x Z s) Q) : ∀ (l : List α) (j : Nat) (s : σ), I j s → (∀ s, I (j + l.length) s → Ok (K s) Q) → Ok (forI l j B K s) Q
  | [], j, s, h, hn => hn s (by simpa using h)
  | x :: r, j, s, h, hn => hc j x s _ h fun s' h' => Ok.forI I hc r (j + 1) s' h' fun s hs => hn s (by rwa [List.length_cons, ← Nat.add_assoc, Nat.add_right_comm])
theorem Ok.forN {σ β : Type} {B : Int → (σ → Option β) → σ → Option β} {K : Int → σ → Option β} {Q : β → Prop} (I : Int → σ → Prop) (lo hi : Int)
    (hc : ∀ (i : Int) s Z, lo ≤ i → i < hi → I i s → (∀ s', I (i + 1) s' → Ok (Z s') Q) → Ok (B i Z s) Q) (hn : ∀ i s, lo ≤ i → (lo ≤ hi → i = hi) → I i s → Ok (K i s) Q) : ∀ (n : Nat) (i : Int) (s : σ), n = (hi - i).toNat → lo ≤ i → (lo ≤ hi → i ≤ hi) → I i s → Ok (forN n i B K s) Q
  | 0, i, s, hn0, h1, h2, h => hn i s h1 (fun hh => by have := h2 hh; omega) h
  | n + 1, i, s, hn0, h1, h2, h => hc i s _ h1 (by omega) h fun s' h' => Ok.forN I lo hi hc hn n (i + 1) s' (by omega) (by omega) (fun _ => by omega) h'
theorem Ok.iter {σ β : Type} {F : (σ → Option β) → σ → Option β} {Q : β → Prop} (I : σ → Prop) (μ : σ → Nat)
    (hc : ∀ s Z, I s → (∀ s', I s' → μ s' < μ s → Ok (Z s') Q) → Ok (F Z s) Q) : ∀ (n : Nat) (s : σ), I s → μ s < n → Ok (iter F n s) Q
  | 0, s, _, h => by omega
  | n + 1, s, h, hm => hc s _ h fun s' h' hm' => Ok.iter I μ hc n s' h' (by omega)
theorem Ok.whl {σ β : Type} {F : (σ → Option β) → σ → Option β} {Q : β → Prop} (I : σ → Prop) (μ : σ → Nat) {s : σ} (h : I s) (hm : μ s < 1099511627776)
    (hc : ∀ s Z, I s → (∀ s', I s' → μ s' < μ s → Ok (Z s') Q) → Ok (F Z s) Q) : Ok (whl F s) Q := Ok.iter I μ hc fuel s h hm
theorem Ok.get {β : Type} {o : Option β} {Q : β → Prop} (h : Ok o Q) : ∃ r, o = some r ∧ Q r := h
theorem Ok.eq {β : Type} {o : Option β} {r : β} (h : Ok o (fun x => x = r)) : o = some r := by obtain ⟨x, h1, rfl⟩ := h; exact h1

theorem elO_at {α : Type} (p : List α) (x : α) (r : List α) : elO (p ++ x :: r) (p.length : Int) = some x := by
  unfold elO; rw [if_pos (by omega)]; simp
theorem elO_ok {α : Type} {l : List α} {i : Int} (h0 : 0 ≤ i) (h : i < l.length) : Ok (elO l i) (fun x => x ∈ l ∧ l[i.toNat]? = some x) := by
  unfold elO; rw [if_pos h0]
  have : i.toNat < l.length := by omega
  exact ⟨l[i.toNat], List.getElem?_eq_getElem this, List.getElem_mem this, List.getElem?_eq_getElem this⟩
theorem appO_ok {α : Type} {l r : List α} (h : l.length + r.length ≤ 549755813888) : appO l r = some (l ++ r) := by unfold appO; rw [if_pos (by unfold cap; exact h)]
theorem app_ok {α : Type} {l r : List α} (h : l.length + r.length ≤ 549755813888) : Ok (appO l r) (fun m => m = l ++ r ∧ m.length = l.length + r.length) := ⟨_, appO_ok h, rfl, by simp⟩
theorem set_ok {α : Type} {l : List α} {i : Int} {x : α} (h0 : 0 ≤ i) (h : i < l.length) : Ok (setO l i x) (fun m => m = l.set i.toNat x ∧ m.length = l.length) := by
  unfold setO; rw [if_pos ⟨h0, h⟩]; exact ⟨_, rfl, rfl, by simp⟩
theorem sli_ok {α : Type} {l : List α} {a b : Int} (h : 0 ≤ a ∧ a ≤ b ∧ b ≤ l.length) : Ok (sliO l a b) (fun m => m = (l.take b.toNat).drop a.toNat ∧ (m.length : Int) = b - a) := by
  unfold sliO; rw [if_pos h]; exact ⟨_, rfl, rfl, by simp; omega⟩
/-- the first loop: does any do -/
theorem any_loop {α σ β : Type} {B : Int → α → (σ → Option β) → σ → Option β} {K : σ → Option β} (p : α → Bool) (a : Option β) (hB : ∀ j x Z s, B j x Z s = bif p x then a else Z s) (l : List α) (j : Nat) (s : σ) : forI l j B K s = bif l.any p then a else K s :=
  forI_eq (f := fun l s => bif l.any p then a else K s) (fun s => rfl) (fun j x r s Z hZ => by
    rw [hB, hZ, List.any_cons]; cases p x <;> rfl) l j s
end Go.Proofs.YtmcjffllahcclaaGreat

/- Plain: the two Checks of a topology come to the same. No condition. -/
namespace Go.Proofs.YtmcjffllahcclaaGreat
set_option linter.all false
open Go

def costB (n : Int) : Bool := decide (1 ≤ n) && decide (n ≤ 1000)
def hasB (t : GTopology) (r : Int) : Bool := t.Routers.any fun x => decide (x.ID = r)
def badR (r : GRouter) : Bool := decide (r.ID < 1) || decide (99 < r.ID)
def badL (l : GLink) : Bool := !costB l.CostA || !costB l.CostB || decide (l.Capacity < 0) || decide (1000 < l.Capacity)
def ltL (a b : GLink) : Bool := decide (a.A < b.A) || (decide (a.A = b.A) && decide (a.B < b.B))
def adjB {α : Type} (p : α → α → Bool) : List α → Bool
  | a :: b :: r => p a b && adjB p (b :: r)
  | _ => true
def kA (t : GTopology) : Bool := t.Routers.any badR
def kB (t : GTopology) : Bool := adjB (fun a b => decide (a.ID < b.ID)) t.Routers
def kC (t : GTopology) : Bool := t.Links.any badL
def kD (t : GTopology) : Bool := t.Links.any fun l => !hasB t l.A || !hasB t l.B
def kE (t : GTopology) : Bool := t.Links.any fun l => decide (l.B ≤ l.A)
def kF (t : GTopology) : Bool := adjB ltL t.Links
def chkT (t : GTopology) : Int :=
  bif decide (24 < (t.Routers.length : Int)) || decide (60 < (t.Links.length : Int)) then 3
  else bif kA t then 2 else bif kB t then (bif kC t then 2 else bif kD t then 4 else bif kE t then 8 else bif kF t then 0 else 25) else 25

/-- a loop that looks at neighbours, behind the first -/
theorem adj_loop {α σ β : Type} {B : Int → α → (σ → Option β) → σ → Option β} {K : σ → Option β} {L : List α} (p : α → α → Bool) (a : Option β)
    (hB : ∀ (j : Nat) x y r q s Z, L = q ++ y :: x :: r → j = q.length + 1 → B (j : Int) x Z s = bif p y x then Z s else a) : ∀ (r q : List α) (y : α) (s : σ), L = q ++ y :: r → forI r (q.length + 1) B K s = bif adjB p (y :: r) then K s else a
  | [], q, y, s, h => rfl
  | x :: r, q, y, s, h => by
    simp only [forI]
    rw [hB (q.length + 1) x y r q s _ h rfl]
    have := adj_loop (B := B) (K := K) p a hB r (q ++ [y]) x s (by simpa using h)
    simp only [List.length_append, List.length_cons, List.length_nil] at this
    rw [this]
    simp only [adjB]
    cases p y x <;> rfl
theorem adj_loop1 {α σ β : Type} {B : Int → α → (σ → Option β) → σ → Option β} {K : σ → Option β} {L : List α} (p : α → α → Bool) (a : Option β)
    (hB : ∀ (j : Nat) x y r q s Z, L = q ++ y :: x :: r → j = q.length + 1 → B (j : Int) x Z s = bif p y x then Z s else a) (s : σ) : forI (L.drop 1) 1 B K s = bif adjB p L then K s else a := by
  cases L with
  | nil => rfl
  | cons y r => exact adj_loop (B := B) (K := K) p a hB r [] y s rfl
theorem adj_loop0 {α σ β : Type} {B : Int → α → (σ → Option β) → σ → Option β} {K : σ → Option β} {L : List α} (p : α → α → Bool) (a : Option β) (h0 : ∀ x Z s, B ((0 : Nat) : Int) x Z s = Z s)
    (hB : ∀ (j : Nat) x y r q s Z, L = q ++ y :: x :: r → j = q.length + 1 → B (j : Int) x Z s = bif p y x then Z s else a) (s : σ) : forI L 0 B K s = bif adjB p L then K s else a := by
  cases L with
  | nil => rfl
  | cons y r =>
    simp only [forI]
    rw [h0]
    exact adj_loop (B := B) (K := K) p a hB r [] y s rfl
/-- the place ahead -/
theorem elO_prev {α : Type} {L : List α} {j : Nat} {y x : α} {r q : List α} (h : L = q ++ y :: x :: r) (hj : j = q.length + 1) (hL : (L.length : Int) ≤ 9223372036854775807) : elO L (w64 ((j : Int) - 1)) = some y := by
  have hl : q.length + 2 ≤ L.length := by rw [h]; simp
  rw [w64_id (by omega) (by omega), show (j : Int) - 1 = (q.length : Int) by omega, h, elO_at]

/-! ## the program's -/
theorem idx_loop {α σ : Type} {B : Int → α → (σ → Option Int) → σ → Option Int} {K : σ → Option Int} (p : α → Bool) (hB : ∀ j x Z s, B j x Z s = bif p x then some j else Z s) (hK : ∀ s, K s = some (-1)) : ∀ (l : List α) (j : Nat) (s : σ), ∃ r, forI l j B K s = some r ∧ decide (0 ≤ r) = l.any p
  | [], j, s => ⟨-1, hK s, rfl⟩
  | x :: r, j, s => by
    simp only [forI, hB, List.any_cons]
    cases p x
    · simpa using idx_loop p hB hK r (j + 1) s
    · exact ⟨j, rfl, by simp⟩
def cmpI (x y : Int) : Int := if x < y then -1 else if y < x then 1 else 0
theorem cmp_int (x y : Int) : m_cmp_Compare_int x y = some (cmpI x y) := by
  unfold m_cmp_Compare_int m_cmp_isNaN_int cmpI
  simp only [bnd_s, decide_true, Bool.not_true, cond_false, cond_d]
  split <;> (try split) <;> rfl
/-! the binary search -/
def bsG {α : Type} [Inhabited α] (f : α → Int) (l : List α) (i j : Nat) : Nat :=
  if h : i < j then if f (el l ((i + j) / 2 : Nat)) < 0 then bsG f l ((i + j) / 2 + 1) j else bsG f l i ((i + j) / 2) else i
  termination_by j - i
  decreasing_by all_goals omega
def bsR {α : Type} [Inhabited α] (f : α → Int) (l : List α) : Nat := bsG f l 0 l.length
def bsT {α : Type} [Inhabited α] (f : α → Int) (l : List α) : Bool := decide (bsR f l < l.length) && decide (f (el l (bsR f l)) = 0)
theorem bsG_lt {α : Type} [Inhabited α] {f : α → Int} {l : List α} {i j : Nat} (h : i < j) (hf : f (el l ((i + j) / 2 : Nat)) < 0) : bsG f l i j = bsG f l ((i + j) / 2 + 1) j := by
  rw [bsG, dif_pos h, if_pos hf]
theorem bsG_ge {α : Type} [Inhabited α] {f : α → Int} {l : List α} {i j : Nat} (h : i < j) (hf : ¬ f (el l ((i + j) / 2 : Nat)) < 0) : bsG f l i j = bsG f l i ((i + j) / 2) := by
  rw [bsG, dif_pos h, if_neg hf]
theorem bsG_end {α : Type} [Inhabited α] {f : α → Int} {l : List α} {i j : Nat} (h : j ≤ i) : bsG f l i j = i := by
  rw [bsG, dif_neg (by omega)]
theorem el_nat {α : Type} [Inhabited α] {l : List α} {i : Nat} (h : i < l.length) : el l i = l[i] := by
  simp [el, List.getD_eq_getElem?_getD, h]
theorem el_mem {α : Type} [Inhabited α] {l : List α} {i : Nat} (h : i < l.length) : el l i ∈ l := by
  rw [el_nat h]; exact List.getElem_mem h
theorem elO_el {α : Type} [Inhabited α] {l : List α} {i : Nat} (h : i < l.length) : elO l (i : Int) = some (el l i) := by
  unfold elO; rw [if_pos (by omega), el_nat h]; simp [h]
theorem half_eq {i j : Nat} (h : i + j ≤ 4611686018427387904) : w64 (Int.fdiv (IntKind.wrap .u64 (w64 ((i : Int) + (j : Int)))) (2 ^ min (1:Int).toNat 64)) = (((i + j) / 2 : Nat) : Int) := by
  have e1 : w64 ((i : Int) + (j : Int)) = ((i + j : Nat) : Int) := by rw [w64_id (by omega) (by omega)]; simp
  have e2 : IntKind.wrap .u64 ((i + j : Nat) : Int) = ((i + j : Nat) : Int) := inK_u64 (by omega) (by omega)
  rw [e1, e2]
  have e3 : (2 : Int) ^ min (1:Int).toNat 64 = 2 := rfl
  rw [e3, Int.fdiv_eq_ediv_of_nonneg _ (by omega)]
  rw [w64_id (by omega) (by omega)]; simp
theorem bs_loop {α : Type} [Inhabited α] {F : ((Int × Int) → Option (Int × Bool)) → (Int × Int) → Option (Int × Bool)} (l : List α) (f : α → Int) (hl : l.length ≤ 1000000)
    (hF : ∀ (i j : Nat) Z, j ≤ l.length → F Z ((i : Int), (j : Int)) = if h : i < j then (if f (el l ((i + j) / 2 : Nat)) < 0 then Z ((((i + j) / 2 + 1 : Nat) : Int), (j : Int)) else Z ((i : Int), (((i + j) / 2 : Nat) : Int))) else some ((i : Int), decide (i < l.length) && decide (f (el l i) = 0))) :
    whl F ((0 : Int), (l.length : Int)) = some ((bsR f l : Int), bsT f l) := by
  refine Ok.eq (Ok.whl (I := fun s => ∃ i j : Nat, s = ((i : Int), (j : Int)) ∧ i ≤ j ∧ j ≤ l.length ∧ bsG f l i j = bsR f l) (μ := fun s => (s.2 - s.1).toNat) ⟨0, l.length, rfl, by omega, by omega, rfl⟩ ?_ ?_)
  · show ((l.length : Int) - 0).toNat < _; omega
  · rintro s Z ⟨i, j, rfl, h1, h2, h3⟩ hz
    rw [hF i j Z h2]
    split
    · rename_i hij
      split
      · rename_i hf
        exact hz _ ⟨_, _, rfl, by omega, h2, by rw [← h3, bsG_lt hij hf]⟩ (by show ((j : Int) - _).toNat < ((j : Int) - i).toNat; omega)
      · rename_i hf
        exact hz _ ⟨_, _, rfl, by omega, by omega, by rw [← h3, bsG_ge hij hf]⟩ (by show ((((i + j) / 2 : Nat) : Int) - i).toNat < ((j : Int) - i).toNat; omega)
    · rename_i hij
      have : bsR f l = i := by rw [← h3, bsG_end (by omega)]
      exact ⟨_, rfl, by simp only [bsT, this]⟩
theorem bsG_spec {α : Type} [Inhabited α] {f : α → Int} {l : List α} (hm : ∀ a b : Nat, a ≤ b → b < l.length → f (el l a) ≤ f (el l b)) : ∀ (n i j : Nat), j - i ≤ n → i ≤ j → j ≤ l.length → (∀ m : Nat, m < i → f (el l m) < 0) → (∀ m : Nat, j ≤ m → m < l.length → 0 ≤ f (el l m)) →
    bsG f l i j ≤ l.length ∧ (∀ m : Nat, m < bsG f l i j → f (el l m) < 0) ∧ (∀ m : Nat, bsG f l i j ≤ m → m < l.length → 0 ≤ f (el l m)) := by
  intro n
  induction n with
  | zero =>
    intro i j hn hij hj h1 h2
    rw [bsG_end (by omega)]
    exact ⟨by omega, h1, fun m hm' => h2 m (by omega)⟩
  | succ n ih =>
    intro i j hn hij hj h1 h2
    by_cases h : i < j
    · by_cases hf : f (el l ((i + j) / 2 : Nat)) < 0
      · rw [bsG_lt h hf]
        refine ih _ _ (by omega) (by omega) hj (fun m hm' => ?_) h2
        have := hm m ((i + j) / 2) (by omega) (by omega)
        omega
      · rw [bsG_ge h hf]
        refine ih _ _ (by omega) (by omega) (by omega) h1 (fun m hm' hml => ?_)
        have := hm ((i + j) / 2) m hm' hml
        omega
    · rw [bsG_end (by omega)]
      exact ⟨by omega, h1, fun m hm' => h2 m (by omega)⟩
theorem bsR_spec {α : Type} [Inhabited α] {f : α → Int} {l : List α} (hm : ∀ a b : Nat, a ≤ b → b < l.length → f (el l a) ≤ f (el l b)) :
    bsR f l ≤ l.length ∧ (∀ m : Nat, m < bsR f l → f (el l m) < 0) ∧ (∀ m : Nat, bsR f l ≤ m → m < l.length → 0 ≤ f (el l m)) :=
  bsG_spec hm l.length 0 l.length (by omega) (by omega) (by omega) (fun m h => by omega) (fun m h1 h2 => by omega)
theorem bsT_iff {α : Type} [Inhabited α] {f : α → Int} {l : List α} (hm : ∀ a b : Nat, a ≤ b → b < l.length → f (el l a) ≤ f (el l b)) : bsT f l = true ↔ ∃ x ∈ l, f x = 0 := by
  obtain ⟨h1, h2, h3⟩ := bsR_spec hm
  simp only [bsT, Bool.and_eq_true, decide_eq_true_eq]
  constructor
  · rintro ⟨q1, q2⟩
    exact ⟨_, el_mem q1, q2⟩
  · rintro ⟨x, hx, hf⟩
    obtain ⟨m, hm1, rfl⟩ := List.getElem_of_mem hx
    rw [← el_nat hm1] at hf
    have hle : bsR f l ≤ m := by
      by_cases q : m < bsR f l
      · have := h2 m q; omega
      · omega
    have hlt : bsR f l < l.length := by omega
    have := h3 _ (Nat.le_refl _) hlt
    have := hm _ _ hle hm1
    exact ⟨hlt, by omega⟩
theorem mono_of_pairwise {α : Type} [Inhabited α] {f : α → Int} {l : List α} (h : l.Pairwise (fun a b => f a ≤ f b)) : ∀ a b : Nat, a ≤ b → b < l.length → f (el l a) ≤ f (el l b) := by
  intro a b hab hb
  rcases Nat.lt_or_eq_of_le hab with hab | rfl
  · have := List.pairwise_iff_getElem.1 h a b (by omega) hb hab
    rwa [el_nat (by omega), el_nat hb]
  · exact Int.le_refl _
theorem adj_pairwise {α : Type} {p : α → α → Bool} (ht : ∀ a b c, p a b = true → p b c = true → p a c = true) : ∀ {l : List α}, adjB p l = true → l.Pairwise (fun a b => p a b = true)
  | [], _ => List.Pairwise.nil
  | [x], _ => by simp
  | a :: b :: r, h => by
    simp only [adjB, Bool.and_eq_true] at h
    have ih := adj_pairwise ht h.2
    rw [List.pairwise_cons]
    refine ⟨fun z hz => ?_, ih⟩
    rcases List.mem_cons.1 hz with rfl | hz
    · exact h.1
    · exact ht _ _ _ h.1 ((List.pairwise_cons.1 ih).1 z hz)
theorem pairwise_adj {α : Type} {p : α → α → Bool} : ∀ {l : List α}, l.Pairwise (fun a b => p a b = true) → adjB p l = true
  | [], _ => rfl
  | [x], _ => rfl
  | a :: b :: r, h => by
    rw [List.pairwise_cons] at h
    simp only [adjB, Bool.and_eq_true]
    exact ⟨h.1 b (by simp), pairwise_adj h.2⟩
theorem asc_rs {t : GTopology} (h : kB t = true) : t.Routers.Pairwise (fun a b => a.ID < b.ID) := by
  have := adj_pairwise (p := fun a b : GRouter => decide (a.ID < b.ID)) (fun a b c h1 h2 => by simp at h1 h2 ⊢; omega) h
  exact this.imp (fun h => by simpa using h)
end Go.Proofs.YtmcjffllahcclaaGreat

/- Plain: what the tape's readers give. No condition. -/
namespace Go.Proofs.YtmcjffllahcclaaGreat
set_option linter.all false
open Go

def TapeOk (t : GTape) : Prop := 0 ≤ t.At ∧ t.At ≤ t.L.length ∧ t.L.length ≤ 600
theorem w64_hi (n : Int) : w64 n ≤ 9223372036854775807 ∧ -9223372036854775808 ≤ w64 n := by
  unfold w64
  rw [IntKind.wrap_i64]; omega
theorem cut_ok {x n : Int} (hn : n ≤ 9223372036854775807) : Ok (m_mk_Cut x n) (fun r => 0 ≤ r ∧ (1 ≤ n → r < n) ∧ (n < 1 → r = 0)) := by
  unfold m_mk_Cut
  refine Ok.cs (fun h => Ok.s ?_) fun h => ?_
  · simp at h; omega
  have h : 1 ≤ n := by simpa using h
  have h1 : Int.tmod x n < n := Int.tmod_lt_of_pos _ (by omega)
  have h2 : -n < Int.tmod x n := Int.lt_tmod_of_pos _ (by omega)
  refine Ok.chk (by simp; omega) ?_
  refine Ok.jn (fun r => 0 ≤ r ∧ r < n) (fun s hs => Ok.s ⟨hs.1, fun _ => hs.2, by omega⟩) fun J hJ => ?_
  refine Ok.cs (fun hc => hJ _ ?_) fun hc => hJ _ ?_
  · simp at hc; rw [w64_id (by omega) (by omega)]; omega
  · simp at hc; omega
theorem raw_ok {t : GTape} (h : TapeOk t) : Ok (m_mk_Tape_Raw t) (fun p => TapeOk p.2) := by
  obtain ⟨h0, h1, h2⟩ := h
  unfold m_mk_Tape_Raw
  refine Ok.cs (fun _ => Ok.s ⟨h0, h1, h2⟩) fun hc => ?_
  simp at hc
  have e : w64 (t.At + 1) = t.At + 1 := w64_id (by omega) (by omega)
  rw [e, w64_id (by omega) (by omega)]
  refine Ok.bnd (elO_ok (by omega) (by omega)) fun a _ => Ok.s ⟨?_, ?_, h2⟩ <;> show _ <;> simp <;> omega
theorem next_ok {t : GTape} {n : Int} (h : TapeOk t) (hn : n ≤ 9223372036854775807) : Ok (m_mk_Tape_Next t n) (fun p => (0 ≤ p.1 ∧ (1 ≤ n → p.1 < n) ∧ (n < 1 → p.1 = 0)) ∧ TapeOk p.2) := by
  unfold m_mk_Tape_Next
  exact Ok.bnd (raw_ok h) fun p hp => Ok.bnd (cut_ok hn) fun r hr => Ok.s ⟨hr, hp⟩
theorem range_ok {t : GTape} {low high : Int} (h : TapeOk t) : Ok (m_mk_Tape_Range t low high) (fun p => (-2305843009213693952 ≤ low → low ≤ high → high < 2305843009213693952 → low ≤ p.1 ∧ p.1 ≤ high) ∧ TapeOk p.2) := by
  unfold m_mk_Tape_Range
  refine Ok.bnd (next_ok h (w64_hi _).1) fun p hp => Ok.s ⟨fun h1 h2 h3 => ?_, hp.2⟩
  obtain ⟨⟨q1, q2, _⟩, _⟩ := hp
  rw [w64_id (n := high - low) (by omega) (by omega), w64_id (n := high - low + 1) (by omega) (by omega)] at q2
  show low ≤ w64 (low + p.1) ∧ w64 (low + p.1) ≤ high
  rw [w64_id (by omega) (by omega)]; omega
theorem pick_ok {t : GTape} {l : List Int} (h : TapeOk t) (h0 : 1 ≤ l.length) (h1 : l.length ≤ 1000000) : Ok (m_mk_Tape_Pick t l) (fun p => p.1 ∈ l ∧ TapeOk p.2) := by
  unfold m_mk_Tape_Pick
  refine Ok.bnd (next_ok h (by omega)) fun p hp => ?_
  exact Ok.bnd (elO_ok hp.1.1 (hp.1.2.1 (by omega))) fun a ha => Ok.s ⟨ha.1, hp.2⟩
theorem one_ok {t : GTape} {n : Int} (h : TapeOk t) (hn : n ≤ 9223372036854775807) : Ok (m_mk_Tape_One t n) (fun p => TapeOk p.2) := by
  unfold m_mk_Tape_One
  exact Ok.bnd (next_ok h hn) fun p hp => Ok.s hp.2
theorem wild_ok {t : GTape} (h : TapeOk t) : Ok (m_mk_Tape_Wild t) (fun p => TapeOk p.2) := by
  unfold m_mk_Tape_Wild
  exact Ok.bnd (pick_ok h (by decide) (by decide)) fun p hp => Ok.s hp.2
theorem new_ok (l : List Int) : Ok (m_mk_New l) TapeOk := by
  unfold m_mk_New
  refine Ok.jn (fun m : List Int => m.length ≤ 600) (fun s hs => Ok.s ⟨by simp, by simp, hs⟩) fun J hJ => ?_
  refine Ok.cs (fun hc => ?_) fun hc => hJ _ ?_
  · simp at hc
    exact Ok.bnd (sli_ok ⟨by omega, by omega, by omega⟩) fun m hm => hJ _ (by omega)
  · simp at hc; omega
end Go.Proofs.YtmcjffllahcclaaGreat

/- Plain: valid topologies, what is left without a failure, and what is looked up. No condition. -/
namespace Go.Proofs.YtmcjffllahcclaaGreat
set_option linter.all false
open Go

/-! ## lists -/
/-! ## valid topologies -/
structure Vt (t : GTopology) : Prop where
  nr : t.Routers.length ≤ 24
  nl : t.Links.length ≤ 60
  idr : ∀ r ∈ t.Routers, 1 ≤ r.ID ∧ r.ID ≤ 99
  asc : t.Routers.Pairwise (fun a b => a.ID < b.ID)
  okl : ∀ l ∈ t.Links, badL l = false
  ends : ∀ l ∈ t.Links, hasB t l.A = true ∧ hasB t l.B = true
  lt : ∀ l ∈ t.Links, l.A < l.B
  ascl : t.Links.Pairwise (fun a b => ltL a b = true)
theorem ltL_trans (a b c : GLink) (h1 : ltL a b = true) (h2 : ltL b c = true) : ltL a c = true := by
  simp [ltL] at *; omega
theorem any_false {α : Type} {l : List α} {p : α → Bool} : l.any p = false ↔ ∀ x ∈ l, p x = false := by
  rw [List.any_eq_false]; simp
theorem vt_iff {t : GTopology} : chkT t = 0 ↔ Vt t := by
  unfold chkT
  constructor
  · intro h
    by_cases h1 : (decide (24 < (t.Routers.length : Int)) || decide (60 < (t.Links.length : Int))) = true
    · rw [h1] at h; cases h
    simp only [Bool.not_eq_true] at h1
    rw [h1, cond_false] at h
    cases h2 : kA t <;> rw [h2] at h <;> first | cases h; done | skip
    cases h3 : kB t <;> rw [h3] at h <;> first | cases h; done | skip
    cases h4 : kC t <;> rw [h4] at h <;> first | cases h; done | skip
    cases h5 : kD t <;> rw [h5] at h <;> first | cases h; done | skip
    cases h6 : kE t <;> rw [h6] at h <;> first | cases h; done | skip
    cases h7 : kF t <;> rw [h7] at h <;> first | cases h; done | skip
    simp only [Bool.or_eq_false_iff, decide_eq_false_iff_not] at h1
    refine ⟨by omega, by omega, fun r hr => ?_, asc_rs h3, any_false.1 h4, fun l hl => ?_, fun l hl => ?_, adj_pairwise ltL_trans h7⟩
    · have := any_false.1 h2 r hr; simp [badR] at this; omega
    · have := any_false.1 h5 l hl; simpa using this
    · have := any_false.1 h6 l hl; simpa using this
  · intro h
    have h1 : (decide (24 < (t.Routers.length : Int)) || decide (60 < (t.Links.length : Int))) = false := by
      have := h.nr; have := h.nl; simp; omega
    have h2 : kA t = false := any_false.2 fun r hr => by have := h.idr r hr; simp [badR]; omega
    have h3 : kB t = true := pairwise_adj (h.asc.imp fun h => by simpa using h)
    have h4 : kC t = false := any_false.2 h.okl
    have h5 : kD t = false := any_false.2 fun l hl => by have := h.ends l hl; simp [this]
    have h6 : kE t = false := any_false.2 fun l hl => by have := h.lt l hl; simp; omega
    have h7 : kF t = true := pairwise_adj h.ascl
    rw [h1, h2, h3, h4, h5, h6, h7]; rfl
theorem hasB_iff {t : GTopology} {r : Int} : hasB t r = true ↔ ∃ x ∈ t.Routers, x.ID = r := by simp [hasB]
/-! ## without -/
/-! ## has, capable, cost -/
/-- the first that does -/
theorem find_loop {α σ β : Type} {B : Int → α → (σ → Option β) → σ → Option β} {K : σ → Option β} (p : α → Bool) (g : α → Option β) (hB : ∀ j x Z s, B j x Z s = bif p x then g x else Z s) (l : List α) (j : Nat) (s : σ) :
    forI l j B K s = match l.find? p with | some x => g x | none => K s :=
  forI_eq (f := fun l s => match l.find? p with | some x => g x | none => K s) (fun s => rfl) (fun j x r s Z hZ => by
    rw [hB, hZ, List.find?_cons]; cases p x <;> rfl) l j s
def eitherB (l : GLink) (a b : Int) : Bool := (decide (l.A = a) && decide (l.B = b)) || (decide (l.B = a) && decide (l.A = b))
def priceOf (a b : Int) (l : GLink) : Int × Bool := (bif decide (l.A = a) && decide (l.B = b) then l.CostA else l.CostB, true)
def adjT (t : GTopology) (a b : Int) : Bool := t.Links.any fun l => eitherB l a b
/-! ## neighbours -/
def ids (t : GTopology) : List Int := t.Routers.map (·.ID)
theorem ids_has {t : GTopology} {r : Int} : r ∈ ids t ↔ hasB t r = true := by rw [hasB_iff]; simp [ids]
theorem adj_iff {t : GTopology} {a b : Int} : adjT t a b = true ↔ ∃ l ∈ t.Links, (l.A = a ∧ l.B = b) ∨ (l.B = a ∧ l.A = b) := by
  simp [adjT, eitherB]
theorem adj_symm {t : GTopology} {a b : Int} (h : adjT t a b = true) : adjT t b a = true := by
  rw [adj_iff] at h ⊢
  obtain ⟨l, hl, h⟩ := h
  exact ⟨l, hl, by omega⟩
theorem adj_ids {t : GTopology} (hv : Vt t) {a b : Int} (h : adjT t a b = true) : b ∈ ids t := by
  rw [adj_iff] at h
  obtain ⟨l, hl, h⟩ := h
  have := hv.ends l hl
  rcases h with ⟨h1, h2⟩ | ⟨h1, h2⟩ <;> rw [ids_has, ← h2]
  · exact this.2
  · exact this.1
def nearL (t : GTopology) (r : Int) : List Int := (ids t).filter fun x => adjT t r x
theorem nearL_mem {t : GTopology} (hv : Vt t) {r x : Int} : x ∈ nearL t r ↔ adjT t r x = true := by
  unfold nearL; rw [List.mem_filter]
  exact ⟨fun h => h.2, fun h => ⟨adj_ids hv h, h⟩⟩
end Go.Proofs.YtmcjffllahcclaaGreat

/- Plain: who is connected with whom. No condition. -/
namespace Go.Proofs.YtmcjffllahcclaaGreat
set_option linter.all false
open Go

/-- a loop, with what was passed -/
theorem Ok.forL {α σ β : Type} {B : Int → α → (σ → Option β) → σ → Option β} {K : σ → Option β} {Q : β → Prop} (I : List α → σ → Prop) {L : List α}
    (hc : ∀ (p : List α) x r s Z, L = p ++ x :: r → I p s → (∀ s', I (p ++ [x]) s' → Ok (Z s') Q) → Ok (B (p.length : Int) x Z s) Q) (s : σ) (h : I [] s) (hn : ∀ s, I L s → Ok (K s) Q) : Ok (Go.Proofs.YtmcjffllahcclaaGreat.forI L 0 B K s) Q := by
  have key : ∀ (l p : List α) (s : σ), L = p ++ l → I p s → Ok (Go.Proofs.YtmcjffllahcclaaGreat.forI l p.length B K s) Q := by
    intro l
    induction l with
    | nil => intro p s hj h; exact hn s (by rw [hj, List.append_nil]; exact h)
    | cons x r ih =>
      intro p s hj h
      refine hc p x r s _ hj h fun s' h' => ?_
      have := ih (p ++ [x]) s' (by simp [hj]) h'
      rwa [List.length_append] at this
  exact key L [] s rfl h
inductive Cn (t : GTopology) (c : List Int) : Int → Int → Prop
  | refl {a : Int} (h : a ∉ c) : Cn t c a a
  | step {a b d : Int} (h : Cn t c a b) (ha : adjT t b d = true) (hd : d ∉ c) : Cn t c a d
theorem Cn.trans {t : GTopology} {c : List Int} {a b d : Int} (h1 : Cn t c a b) (h2 : Cn t c b d) : Cn t c a d := by
  induction h2 with
  | refl _ => exact h1
  | step _ ha hd ih => exact .step ih ha hd
theorem Cn.left {t : GTopology} {c : List Int} {a b : Int} (h : Cn t c a b) : a ∉ c := by
  induction h with
  | refl h => exact h
  | step _ _ _ ih => exact ih
theorem Cn.right {t : GTopology} {c : List Int} {a b : Int} (h : Cn t c a b) : b ∉ c := by
  cases h with
  | refl h => exact h
  | step _ _ hd => exact hd
theorem Cn.symm {t : GTopology} {c : List Int} {a b : Int} (h : Cn t c a b) : Cn t c b a := by
  induction h with
  | refl h => exact .refl h
  | step h ha hd ih => exact (Cn.step (.refl hd) (adj_symm ha) h.right).trans ih
theorem Cn.ids {t : GTopology} (hv : Vt t) {c : List Int} {a b : Int} (h : Cn t c a b) (ha : a ∈ ids t) : b ∈ ids t := by
  cases h with
  | refl h => exact ha
  | step _ hd _ => exact adj_ids hv hd
end Go.Proofs.YtmcjffllahcclaaGreat

/- Plain: components, bridges and cuts. No condition. -/
namespace Go.Proofs.YtmcjffllahcclaaGreat
set_option linter.all false
open Go

/-! ## connected -/
/-! ## components -/
/-! ## bridges -/
/-! ## cuts -/
end Go.Proofs.YtmcjffllahcclaaGreat
