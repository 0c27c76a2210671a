/- Plain facts on the words in which the program is written anew. No program in sight. No condition. -/
import Derived.Test.YtckhladakpjlgaaBA
namespace Go.Proofs.Ytckhladakpjlgaa
set_option linter.all false
open Go

theorem bnd_s {α β : Type} (a : α) (k : α → Option β) : bnd (some a) k = k a := rfl
theorem chk_t {β : Type} {c : Bool} {k : Option β} (h : c = true) : chk c k = k := by subst h; rfl
theorem cond_d {α : Type} {p : Prop} [Decidable p] {x y : α} : (bif decide p then x else y) = if p then x else y := by
  by_cases h : p <;> simp [h]

/-- a loop along a list comes to what 'f' says -/
theorem forI_eq {α σ β : Type} {B : Int → α → (σ → Option β) → σ → Option β} {K : σ → Option β} (f : List α → σ → Option β) (hn : ∀ s, K s = f [] s)
    (hc : ∀ (j : Int) x r s Z, (∀ s', Z s' = f r s') → B j x Z s = f (x :: r) s) : ∀ (l : List α) (j : Nat) (s : σ), forI l j B K s = f l s
  | [], _, s => hn s
  | x :: r, j, s => hc j x r s _ fun s' => forI_eq f hn hc r (j + 1) s'
/-- the same, with what was passed -/
theorem forI_pre {α σ β : Type} {B : Int → α → (σ → Option β) → σ → Option β} {K : σ → Option β} {L : List α} (f : List α → List α → σ → Option β) (hn : ∀ s, K s = f L [] s)
    (hc : ∀ p x r s Z, p ++ x :: r = L → (∀ s', Z s' = f (p ++ [x]) r s') → B (p.length : Int) x Z s = f p (x :: r) s) : ∀ (l p : List α) (s : σ), p ++ l = L → forI l p.length B K s = f p l s
  | [], p, s, h => by rw [List.append_nil] at h; subst h; exact hn s
  | x :: r, p, s, h => hc p x r s _ h fun s' => by
      have := forI_pre (B := B) (K := K) f hn hc r (p ++ [x]) s' (by simpa using h)
      rw [List.length_append] at this
      exact this
/-- what is so of a result -/
def Ok {β : Type} (o : Option β) (Q : β → Prop) : Prop := ∃ r, o = some r ∧ Q r
theorem Ok.s {β : Type} {Q : β → Prop} {r : β} (h : Q r) : Ok (some r) Q := ⟨r, rfl, h⟩
theorem Ok.bnd {α β : Type} {o : Option α} {k : α → Option β} {P : α → Prop} {Q : β → Prop} (h : Ok o P) (hk : ∀ a, P a → Ok (k a) Q) : Ok (bnd o k) Q := by
  obtain ⟨a, rfl, ha⟩ := h; exact hk a ha
theorem Ok.cs {β : Type} {c : Bool} {x y : Option β} {Q : β → Prop} (h1 : c = true → Ok x Q) (h2 : c = false → Ok y Q) : Ok (bif c then x else y) Q := by
  cases c
  · exact h2 rfl
  · exact h1 rfl
theorem Ok.chk {β : Type} {c : Bool} {k : Option β} {Q : β → Prop} (h : c = true) (hk : Ok k Q) : Ok (chk c k) Q := by subst h; exact hk
theorem Ok.jn {σ β : Type} {k : σ → Option β} {t : (σ → Option β) → Option β} {Q : β → Prop} (R : σ → Prop) (h1 : ∀ s, R s → Ok (k s) Q) (h2 : ∀ J, (∀ s, R s → Ok (J s) Q) → Ok (t J) Q) : Ok (jn k t) Q := h2 k h1
theorem Ok.mono {β : Type} {o : Option β} {Q Q' : β → Prop} (h : Ok o Q) (hq : ∀ r, Q r → Q' r) : Ok o Q' := by
  obtain ⟨r, h1, h2⟩ := h; exact ⟨r, h1, hq r h2⟩
theorem Ok.forI {α σ β : Type} {B : Int → α → (σ → Option β) → σ → Option β} {K : σ → Option β} {Q : β → Prop} (I : Nat → σ → Prop)
    (hc : ∀ (j : Nat) x s Z, I j s → (∀ s', I (j + 1) s' → Ok (Z s') Q) → Ok (B (j : Int) x Z s) Q) : ∀ (l : List α) (j : Nat) (s : σ), I j s → (∀ s, I (j + l.length) s → Ok (K s) Q) → Ok (forI l j B K s) Q
  | [], j, s, h, hn => hn s (by simpa using h)
  | x :: r, j, s, h, hn => hc j x s _ h fun s' h' => Ok.forI I hc r (j + 1) s' h' fun s hs => hn s (by rwa [List.length_cons, ← Nat.add_assoc, Nat.add_right_comm])
/-- the same, the elements known -/
theorem Ok.forM {α σ β : Type} {B : Int → α → (σ → Option β) → σ → Option β} {K : σ → Option β} {Q : β → Prop} (I : Nat → σ → Prop) {L : List α}
    (hc : ∀ (j : Nat) x s Z, j < L.length → x ∈ L → I j s → (∀ s', I (j + 1) s' → Ok (Z s') Q) → Ok (B (j : Int) x Z s) Q) (s : σ) (h : I 0 s) (hn : ∀ s, I L.length s → Ok (K s) Q) : Ok (Go.Proofs.Ytckhladakpjlgaa.forI L 0 B K s) Q := by
  have key : ∀ (l : List α) (j : Nat) (s : σ), (∀ x ∈ l, x ∈ L) → j + l.length = L.length → I j s → Ok (Go.Proofs.Ytckhladakpjlgaa.forI l j B K s) Q := by
    intro l
    induction l with
    | nil => intro j s _ hj h; exact hn s (by simpa [← hj] using h)
    | cons x r ih =>
      intro j s hm hj h
      simp only [List.length_cons] at hj
      exact hc j x s _ (by omega) (hm x (by simp)) h fun s' h' => ih (j + 1) s' (fun y hy => hm y (by simp [hy])) (by omega) h'
  exact key L 0 s (fun _ h => h) (by simp) h
theorem Ok.forN {σ β : Type} {B : Int → (σ → Option β) → σ → Option β} {K : Int → σ → Option β} {Q : β → Prop} (I : Int → σ → Prop) (lo hi : Int)
    (hc : ∀ (i : Int) s Z, lo ≤ i → i < hi → I i s → (∀ s', I (i + 1) s' → Ok (Z s') Q) → Ok (B i Z s) Q) (hn : ∀ i s, lo ≤ i → (lo ≤ hi → i = hi) → I i s → Ok (K i s) Q) : ∀ (n : Nat) (i : Int) (s : σ), n = (hi - i).toNat → lo ≤ i → (lo ≤ hi → i ≤ hi) → I i s → Ok (forN n i B K s) Q
  | 0, i, s, hn0, h1, h2, h => hn i s h1 (fun hh => by have := h2 hh; omega) h
  | n + 1, i, s, hn0, h1, h2, h => hc i s _ h1 (by omega) h fun s' h' => Ok.forN I lo hi hc hn n (i + 1) s' (by omega) (by omega) (fun _ => by omega) h'
theorem Ok.iter {σ β : Type} {F : (σ → Option β) → σ → Option β} {Q : β → Prop} (I : σ → Prop) (μ : σ → Nat)
    (hc : ∀ s Z, I s → (∀ s', I s' → μ s' < μ s → Ok (Z s') Q) → Ok (F Z s) Q) : ∀ (n : Nat) (s : σ), I s → μ s < n → Ok (iter F n s) Q
  | 0, s, _, h => by omega
  | n + 1, s, h, hm => hc s _ h fun s' h' hm' => Ok.iter I μ hc n s' h' (by omega)
theorem Ok.whl {σ β : Type} {F : (σ → Option β) → σ → Option β} {Q : β → Prop} (I : σ → Prop) (μ : σ → Nat) {s : σ} (h : I s) (hm : μ s < 1099511627776)
    (hc : ∀ s Z, I s → (∀ s', I s' → μ s' < μ s → Ok (Z s') Q) → Ok (F Z s) Q) : Ok (whl F s) Q := Ok.iter I μ hc fuel s h hm
theorem Ok.get {β : Type} {o : Option β} {Q : β → Prop} (h : Ok o Q) : ∃ r, o = some r ∧ Q r := h
theorem Ok.eq {β : Type} {o : Option β} {r : β} (h : Ok o (fun x => x = r)) : o = some r := by obtain ⟨x, h1, rfl⟩ := h; exact h1

theorem elO_at {α : Type} (p : List α) (x : α) (r : List α) : elO (p ++ x :: r) (p.length : Int) = some x := by
  unfold elO; rw [if_pos (by omega)]; simp
theorem elO_ok {α : Type} {l : List α} {i : Int} (h0 : 0 ≤ i) (h : i < l.length) : Ok (elO l i) (fun x => x ∈ l ∧ l[i.toNat]? = some x) := by
  unfold elO; rw [if_pos h0]
  have : i.toNat < l.length := by omega
  exact ⟨l[i.toNat], List.getElem?_eq_getElem this, List.getElem_mem this, List.getElem?_eq_getElem this⟩
theorem appO_ok {α : Type} {l r : List α} (h : l.length + r.length ≤ 549755813888) : appO l r = some (l ++ r) := by unfold appO; rw [if_pos (by unfold cap; exact h)]
theorem app_ok {α : Type} {l r : List α} (h : l.length + r.length ≤ 549755813888) : Ok (appO l r) (fun m => m = l ++ r ∧ m.length = l.length + r.length) := ⟨_, appO_ok h, rfl, by simp⟩
theorem set_ok {α : Type} {l : List α} {i : Int} {x : α} (h0 : 0 ≤ i) (h : i < l.length) : Ok (setO l i x) (fun m => m = l.set i.toNat x ∧ m.length = l.length) := by
  unfold setO; rw [if_pos ⟨h0, h⟩]; exact ⟨_, rfl, rfl, by simp⟩
theorem sli_ok {α : Type} {l : List α} {a b : Int} (h : 0 ≤ a ∧ a ≤ b ∧ b ≤ l.length) : Ok (sliO l a b) (fun m => m = (l.take b.toNat).drop a.toNat ∧ (m.length : Int) = b - a) := by
  unfold sliO; rw [if_pos h]; exact ⟨_, rfl, rfl, by simp; omega⟩
/-- the first loop: does any do -/
theorem any_loop {α σ β : Type} {B : Int → α → (σ → Option β) → σ → Option β} {K : σ → Option β} (p : α → Bool) (a : Option β) (hB : ∀ j x Z s, B j x Z s = bif p x then a else Z s) (l : List α) (j : Nat) (s : σ) : forI l j B K s = bif l.any p then a else K s :=
  forI_eq (f := fun l s => bif l.any p then a else K s) (fun s => rfl) (fun j x r s Z hZ => by
    rw [hB, hZ, List.any_cons]; cases p x <;> rfl) l j s
end Go.Proofs.Ytckhladakpjlgaa
