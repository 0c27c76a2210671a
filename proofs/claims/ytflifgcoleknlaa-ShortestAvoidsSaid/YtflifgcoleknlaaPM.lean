/- Several texts in one. No condition but those that stand in each. -/
import Derived.Test.YtflifgcoleknlaaBA
import Derived.Test.YtflifgcoleknlaaDA
/- Plain facts on the words in which the program is written anew. No program in sight. No condition. -/
namespace Go.Proofs.Ytflifgcoleknlaa
set_option linter.all false
open Go
theorem bnd_s {α β : Type} (a : α) (k : α → Option β) : bnd (some a) k = k a := rfl
theorem cond_d {α : Type} {p : Prop} [Decidable p] {x y : α} : (bif decide p then x else y) = if p then x else y := by
 by_cases h : p <;> simp [h]
/-- a loop along a list comes to what 'f' says -/
theorem forI_eq {α σ β : Type} {B : Int → α → (σ → Option β) → σ → Option β} {K : σ → Option β} (f : List α → σ → Option β) (hn : ∀ s, K s = f [] s)
  (hc : ∀ (j : Int) x r s Z, (∀ s', Z s' = f r s') → B j x Z s = f (x :: r) s) : ∀ (l : List α) (j : Nat) (s : σ), forI l j B K s = f l s
 | [], _, s => hn s
 | x :: r, j, s => hc j x r s _ fun s' => forI_eq f hn hc r (j + 1) s'
/-- the same, with what was passed -/
theorem forI_pre {α σ β : Type} {B : Int → α → (σ → Option β) → σ → Option β} {K : σ → Option β} {L : List α} (f : List α → List α → σ → Option β) (hn : ∀ s, K s = f L [] s)
  (hc : ∀ p x r s Z, p ++ x :: r = L → (∀ s', Z s' = f (p ++ [x]) r s') → B (p.length : Int) x Z s = f p (x :: r) s) : ∀ (l p : List α) (s : σ), p ++ l = L → forI l p.length B K s = f p l s
 | [], p, s, h => by rw [List.append_nil] at h; subst h; exact hn s
 | x :: r, p, s, h => hc p x r s _ h fun s' => by
   have := forI_pre (B := B) (K := K) f hn hc r (p ++ [x]) s' (by simpa using h)
   rw [List.length_append] at this
   exact this
/-- what is so of a result -/
def Ok {β : Type} (o : Option β) (Q : β → Prop) : Prop := ∃ r, o = some r ∧ Q r
theorem Ok.s {β : Type} {Q : β → Prop} {r : β} (h : Q r) : Ok (some r) Q := ⟨r, rfl, h⟩
theorem Ok.bnd {α β : Type} {o : Option α} {k : α → Option β} {P : α → Prop} {Q : β → Prop} (h : Ok o P) (hk : ∀ a, P a → Ok (k a) Q) : Ok (bnd o k) Q := by
 obtain ⟨a, rfl, ha⟩ := h; exact hk a ha
theorem Ok.cs {β : Type} {c : Bool} {x y : Option β} {Q : β → Prop} (h1 : c = true → Ok x Q) (h2 : c = false → Ok y Q) : Ok (bif c then x else y) Q := by
 cases c
 ·exact h2 rfl
 ·exact h1 rfl
theorem Ok.chk {β : Type} {c : Bool} {k : Option β} {Q : β → Prop} (h : c = true) (hk : Ok k Q) : Ok (chk c k) Q := by subst h; exact hk
theorem Ok.jn {σ β : Type} {k : σ → Option β} {t : (σ → Option β) → Option β} {Q : β → Prop} (R : σ → Prop) (h1 : ∀ s, R s → Ok (k s) Q) (h2 : ∀ J, (∀ s, R s → Ok (J s) Q) → Ok (t J) Q) : Ok (jn k t) Q := h2 k h1
theorem Ok.mono {β : Type} {o : Option β} {Q Q' : β → Prop} (h : Ok o Q) (hq : ∀ r, Q r → Q' r) : Ok o Q' := by
 obtain ⟨r, h1, h2⟩ := h; exact ⟨r, h1, hq r h2⟩
theorem Ok.forI {α σ β : Type} {B : Int → α → (σ → Option β) → σ → Option β} {K : σ → Option β} {Q : β → Prop} (I : Nat → σ → Prop)
  (hc : ∀ (j : Nat) x s Z, I j s → (∀ s', I (j + 1) s' → Ok (Z s') Q) → Ok (B (j : Int) x Z s) Q) : ∀ (l : List α) (j : Nat) (s : σ), I j s → (∀ s, I (j + l.length) s → Ok (K s) Q) → Ok (forI l j B K s) Q
 | [], j, s, h, hn => hn s (by simpa using h)
 | x :: r, j, s, h, hn => hc j x s _ h fun s' h' => Ok.forI I hc r (j + 1) s' h' fun s hs => hn s (by rwa [List.length_cons, ← Nat.add_assoc, Nat.add_right_comm])
/-- the same, the elements known -/
theorem Ok.forM {α σ β : Type} {B : Int → α → (σ → Option β) → σ → Option β} {K : σ → Option β} {Q : β → Prop} (I : Nat → σ → Prop) {L : List α}
  (hc : ∀ (j : Nat) x s Z, j < L.length → x ∈ L → I j s → (∀ s', I (j + 1) s' → Ok (Z s') Q) → Ok (B (j : Int) x Z s) Q) (s : σ) (h : I 0 s) (hn : ∀ s, I L.length s → Ok (K s) Q) : Ok (Go.Proofs.Ytflifgcoleknlaa.forI L 0 B K s) Q := by
 have key : ∀ (l : List α) (j : Nat) (s : σ), (∀ x ∈ l, x ∈ L) → j + l.length = L.length → I j s → Ok (Go.Proofs.Ytflifgcoleknlaa.forI l j B K s) Q := by
  intro l
  induction l with
  | nil => intro j s _ hj h; exact hn s (by simpa [← hj] using h)
  | cons x r ih =>
   intro j s hm hj h
   simp only [List.length_cons] at hj
   exact hc j x s _ (by omega) (hm x (by simp)) h fun s' h' => ih (j + 1) s' (fun y hy => hm y (by simp [hy])) (by omega) h'
 exact key L 0 s (fun _ h => h) (by simp) h
theorem Ok.forN {σ β : Type} {B : Int → (σ → Option β) → σ → Option β} {K : Int → σ → Option β} {Q : β → Prop} (I : Int → σ → Prop) (lo hi : Int)
  (hc : ∀ (i : Int) s Z, lo ≤ i → i < hi → I i s → (∀ s', I (i + 1) s' → Ok (Z s') Q) → Ok (B i Z s) Q) (hn : ∀ i s, lo ≤ i → (lo ≤ hi → i = hi) → I i s → Ok (K i s) Q) : ∀ (n : Nat) (i : Int) (s : σ), n = (hi - i).toNat → lo ≤ i → (lo ≤ hi → i ≤ hi) → I i s → Ok (forN n i B K s) Q
 | 0, i, s, hn0, h1, h2, h => hn i s h1 (fun hh => by have := h2 hh; omega) h
 | n + 1, i, s, hn0, h1, h2, h => hc i s _ h1 (by omega) h fun s' h' => Ok.forN I lo hi hc hn n (i + 1) s' (by omega) (by omega) (fun _ => by omega) h'
theorem Ok.iter {σ β : Type} {F : (σ → Option β) → σ → Option β} {Q : β → Prop} (I : σ → Prop) (μ : σ → Nat)
  (hc : ∀ s Z, I s → (∀ s', I s' → μ s' < μ s → Ok (Z s') Q) → Ok (F Z s) Q) : ∀ (n : Nat) (s : σ), I s → μ s < n → Ok (iter F n s) Q
 | 0, s, _, h => by omega
 | n + 1, s, h, hm => hc s _ h fun s' h' hm' => Ok.iter I μ hc n s' h' (by omega)
theorem Ok.whl {σ β : Type} {F : (σ → Option β) → σ → Option β} {Q : β → Prop} (I : σ → Prop) (μ : σ → Nat) {s : σ} (h : I s) (hm : μ s < 1099511627776)
  (hc : ∀ s Z, I s → (∀ s', I s' → μ s' < μ s → Ok (Z s') Q) → Ok (F Z s) Q) : Ok (whl F s) Q := Ok.iter I μ hc fuel s h hm
theorem Ok.get {β : Type} {o : Option β} {Q : β → Prop} (h : Ok o Q) : ∃ r, o = some r ∧ Q r := h
theorem Ok.eq {β : Type} {o : Option β} {r : β} (h : Ok o (fun x => x = r)) : o = some r := by obtain ⟨x, h1, rfl⟩ := h; exact h1
theorem elO_at {α : Type} (p : List α) (x : α) (r : List α) : elO (p ++ x :: r) (p.length : Int) = some x := by
 unfold elO; rw [if_pos (by omega)]; simp
theorem elO_ok {α : Type} {l : List α} {i : Int} (h0 : 0 ≤ i) (h : i < l.length) : Ok (elO l i) (fun x => x ∈ l ∧ l[i.toNat]? = some x) := by
 unfold elO; rw [if_pos h0]
 have : i.toNat < l.length := by omega
 exact ⟨l[i.toNat], List.getElem?_eq_getElem this, List.getElem_mem this, List.getElem?_eq_getElem this⟩
theorem appO_ok {α : Type} {l r : List α} (h : l.length + r.length ≤ 549755813888) : appO l r = some (l ++ r) := by unfold appO; rw [if_pos (by unfold cap; exact h)]
theorem app_ok {α : Type} {l r : List α} (h : l.length + r.length ≤ 549755813888) : Ok (appO l r) (fun m => m = l ++ r ∧ m.length = l.length + r.length) := ⟨_, appO_ok h, rfl, by simp⟩
theorem set_ok {α : Type} {l : List α} {i : Int} {x : α} (h0 : 0 ≤ i) (h : i < l.length) : Ok (setO l i x) (fun m => m = l.set i.toNat x ∧ m.length = l.length) := by
 unfold setO; rw [if_pos ⟨h0, h⟩]; exact ⟨_, rfl, rfl, by simp⟩
theorem sli_ok {α : Type} {l : List α} {a b : Int} (h : 0 ≤ a ∧ a ≤ b ∧ b ≤ l.length) : Ok (sliO l a b) (fun m => m = (l.take b.toNat).drop a.toNat ∧ (m.length : Int) = b - a) := by
 unfold sliO; rw [if_pos h]; exact ⟨_, rfl, rfl, by simp; omega⟩
/-- the first loop: does any do -/
theorem any_loop {α σ β : Type} {B : Int → α → (σ → Option β) → σ → Option β} {K : σ → Option β} (p : α → Bool) (a : Option β) (hB : ∀ j x Z s, B j x Z s = bif p x then a else Z s) (l : List α) (j : Nat) (s : σ) : forI l j B K s = bif l.any p then a else K s :=
 forI_eq (f := fun l s => bif l.any p then a else K s) (fun s => rfl) (fun j x r s Z hZ => by
  rw [hB, hZ, List.any_cons]; cases p x <;> rfl) l j s
end Go.Proofs.Ytflifgcoleknlaa

/- Plain: the two Checks of a topology come to the same. No condition. -/
namespace Go.Proofs.Ytflifgcoleknlaa
set_option linter.all false
open Go
def costB (n : Int) : Bool := decide (1 ≤ n) && decide (n ≤ 1000)
def hasB (t : GTopology) (r : Int) : Bool := t.Routers.any fun x => decide (x.ID = r)
def badR (r : GRouter) : Bool := decide (r.ID < 1) || decide (99 < r.ID)
def badL (l : GLink) : Bool := !costB l.CostA || !costB l.CostB || decide (l.Capacity < 0) || decide (1000 < l.Capacity)
def ltL (a b : GLink) : Bool := decide (a.A < b.A) || (decide (a.A = b.A) && decide (a.B < b.B))
def adjB {α : Type} (p : α → α → Bool) : List α → Bool
 | a :: b :: r => p a b && adjB p (b :: r)
 | _ => true
def kA (t : GTopology) : Bool := t.Routers.any badR
def kB (t : GTopology) : Bool := adjB (fun a b => decide (a.ID < b.ID)) t.Routers
def kC (t : GTopology) : Bool := t.Links.any badL
def kD (t : GTopology) : Bool := t.Links.any fun l => !hasB t l.A || !hasB t l.B
def kE (t : GTopology) : Bool := t.Links.any fun l => decide (l.B ≤ l.A)
def kF (t : GTopology) : Bool := adjB ltL t.Links
def chkT (t : GTopology) : Int :=
 bif decide (24 < (t.Routers.length : Int)) || decide (60 < (t.Links.length : Int)) then 3
 else bif kA t then 2 else bif kB t then (bif kC t then 2 else bif kD t then 4 else bif kE t then 8 else bif kF t then 0 else 25) else 25
/-- a loop that looks at neighbours, behind the first -/
theorem adj_loop {α σ β : Type} {B : Int → α → (σ → Option β) → σ → Option β} {K : σ → Option β} {L : List α} (p : α → α → Bool) (a : Option β)
  (hB : ∀ (j : Nat) x y r q s Z, L = q ++ y :: x :: r → j = q.length + 1 → B (j : Int) x Z s = bif p y x then Z s else a) : ∀ (r q : List α) (y : α) (s : σ), L = q ++ y :: r → forI r (q.length + 1) B K s = bif adjB p (y :: r) then K s else a
 | [], q, y, s, h => rfl
 | x :: r, q, y, s, h => by
  simp only [forI]
  rw [hB (q.length + 1) x y r q s _ h rfl]
  have := adj_loop (B := B) (K := K) p a hB r (q ++ [y]) x s (by simpa using h)
  simp only [List.length_append, List.length_cons, List.length_nil] at this
  rw [this]
  simp only [adjB]
  cases p y x <;> rfl
theorem adj_loop1 {α σ β : Type} {B : Int → α → (σ → Option β) → σ → Option β} {K : σ → Option β} {L : List α} (p : α → α → Bool) (a : Option β)
  (hB : ∀ (j : Nat) x y r q s Z, L = q ++ y :: x :: r → j = q.length + 1 → B (j : Int) x Z s = bif p y x then Z s else a) (s : σ) : forI (L.drop 1) 1 B K s = bif adjB p L then K s else a := by
 cases L with
 | nil => rfl
 | cons y r => exact adj_loop (B := B) (K := K) p a hB r [] y s rfl
theorem adj_loop0 {α σ β : Type} {B : Int → α → (σ → Option β) → σ → Option β} {K : σ → Option β} {L : List α} (p : α → α → Bool) (a : Option β) (h0 : ∀ x Z s, B ((0 : Nat) : Int) x Z s = Z s)
  (hB : ∀ (j : Nat) x y r q s Z, L = q ++ y :: x :: r → j = q.length + 1 → B (j : Int) x Z s = bif p y x then Z s else a) (s : σ) : forI L 0 B K s = bif adjB p L then K s else a := by
 cases L with
 | nil => rfl
 | cons y r =>
  simp only [forI]
  rw [h0]
  exact adj_loop (B := B) (K := K) p a hB r [] y s rfl
/-- the place ahead -/
theorem elO_prev {α : Type} {L : List α} {j : Nat} {y x : α} {r q : List α} (h : L = q ++ y :: x :: r) (hj : j = q.length + 1) (hL : (L.length : Int) ≤ 9223372036854775807) : elO L (w64 ((j : Int) - 1)) = some y := by
 have hl : q.length + 2 ≤ L.length := by rw [h]; simp
 rw [w64_id (by omega) (by omega), show (j : Int) - 1 = (q.length : Int) by omega, h, elO_at]
theorem ref_cost (n : Int) : m_ref05_cost n = some (costB n) := rfl
theorem ref_has (t : GTopology) (r : Int) : m_ref05_has t r = some (hasB t r) := by
 unfold m_ref05_has
 refine (any_loop (fun x : GRouter => decide (x.ID = r)) (some true) ?_ _ _ _).trans ?_
 ·intros; rfl
 ·unfold hasB; cases t.Routers.any _ <;> rfl
theorem ref_check (t : GTopology) : m_ref05_Check t = some (chkT t) := by
 unfold m_ref05_Check chkT
 by_cases hlen : (decide (24 < (t.Routers.length : Int)) || decide (60 < (t.Links.length : Int))) = true
 ·rw [hlen]; rfl
 rw [Bool.not_eq_true] at hlen
 rw [hlen]
 simp only [cond_false]
 simp only [Bool.or_eq_false_iff, decide_eq_false_iff_not] at hlen
 refine (any_loop badR (some 2) ?_ _ _ _).trans ?_
 ·intros; rfl
 unfold kA
 cases t.Routers.any badR
 case true => rfl
 simp only [cond_false]
 refine (adj_loop1 (fun a b : GRouter => decide (a.ID < b.ID)) (some 25) ?_ _).trans ?_
 ·intro j x y r q s Z h hj
  simp only [elO_prev h hj (by omega), bnd_s, cond_d]
  split <;> split <;> first | rfl | omega
 unfold kB
 cases adjB _ t.Routers
 case false => rfl
 simp only [cond_true]
 refine (any_loop badL (some 2) ?_ _ _ _).trans ?_
 ·intro j x Z s
  simp only [jn, ref_cost, bnd_s, badL]
  cases costB x.CostA <;> cases costB x.CostB <;> simp [cond_d] <;> (try split) <;> (try split) <;> simp_all <;> omega
 unfold kC
 cases t.Links.any badL
 case true => rfl
 simp only [cond_false]
 refine (any_loop (fun l => !hasB t l.A || !hasB t l.B) (some 4) ?_ _ _ _).trans ?_
 ·intro j x Z s
  simp only [jn, ref_has, bnd_s]
  cases hasB t x.A <;> cases hasB t x.B <;> rfl
 unfold kD
 cases t.Links.any _
 case true => rfl
 simp only [cond_false]
 refine (any_loop (fun l => decide (l.B ≤ l.A)) (some 8) ?_ _ _ _).trans ?_
 ·intros; rfl
 unfold kE
 cases t.Links.any _
 case true => rfl
 simp only [cond_false]
 refine (adj_loop1 ltL (some 25) ?_ _).trans ?_
 ·intro j x y r q s Z h hj
  have e : (decide (x.A < y.A) || (decide (y.A = x.A) && decide (x.B ≤ y.B))) = !ltL y x := by
   rw [Bool.eq_iff_iff]; simp [ltL]; omega
  simp only [elO_prev h hj (by omega), bnd_s]
  rw [e]
  cases ltL y x <;> rfl
 unfold kF
 cases adjB ltL t.Links <;> rfl
/-! ## the program's -/
theorem idx_loop {α σ : Type} {B : Int → α → (σ → Option Int) → σ → Option Int} {K : σ → Option Int} (p : α → Bool) (hB : ∀ j x Z s, B j x Z s = bif p x then some j else Z s) (hK : ∀ s, K s = some (-1)) : ∀ (l : List α) (j : Nat) (s : σ), ∃ r, forI l j B K s = some r ∧ decide (0 ≤ r) = l.any p
 | [], j, s => ⟨-1, hK s, rfl⟩
 | x :: r, j, s => by
  simp only [forI, hB, List.any_cons]
  cases p x
  ·simpa using idx_loop p hB hK r (j + 1) s
  ·exact ⟨j, rfl, by simp⟩
theorem cfR (l : List GRouter) (f : GRouter → Option Bool) (p : GRouter → Bool) (hf : ∀ x, f x = some (p x)) : m_slices_ContainsFunc_Lapi_Router_api_Router l f = some (l.any p) := by
 unfold m_slices_ContainsFunc_Lapi_Router_api_Router m_slices_IndexFunc_Lapi_Router_api_Router
 obtain ⟨r, h1, h2⟩ := idx_loop (B := fun (j1 : Int) (e1 : GRouter) (Z1 : Unit → Option Int) (sg : Unit) => match sg with | () => bnd (f e1) fun (vx_1 : Bool) => bif vx_1 then some (j1 : Int) else Z1 ()) (K := fun (sg : Unit) => match sg with | () => some (-1:Int)) p (fun j x Z s => by simp only [hf, bnd_s]) (fun _ => rfl) l 0 ()
 simp only [h1, bnd_s, h2]
theorem cfL (l : List GLink) (f : GLink → Option Bool) (p : GLink → Bool) (hf : ∀ x, f x = some (p x)) : m_slices_ContainsFunc_Lapi_Link_api_Link l f = some (l.any p) := by
 unfold m_slices_ContainsFunc_Lapi_Link_api_Link m_slices_IndexFunc_Lapi_Link_api_Link
 obtain ⟨r, h1, h2⟩ := idx_loop (B := fun (j1 : Int) (e1 : GLink) (Z1 : Unit → Option Int) (sg : Unit) => match sg with | () => bnd (f e1) fun (vx_1 : Bool) => bif vx_1 then some (j1 : Int) else Z1 ()) (K := fun (sg : Unit) => match sg with | () => some (-1:Int)) p (fun j x Z s => by simp only [hf, bnd_s]) (fun _ => rfl) l 0 ()
 simp only [h1, bnd_s, h2]
def cmpI (x y : Int) : Int := if x < y then -1 else if y < x then 1 else 0
theorem cmp_int (x y : Int) : m_cmp_Compare_int x y = some (cmpI x y) := by
 unfold m_cmp_Compare_int m_cmp_isNaN_int cmpI
 simp only [bnd_s, decide_true, Bool.not_true, cond_false, cond_d]
 split <;> (try split) <;> rfl
theorem cmpI_lt {x y : Int} : cmpI x y < 0 ↔ x < y := by unfold cmpI; split <;> (try split) <;> omega
theorem cmpI_eq {x y : Int} : cmpI x y = 0 ↔ x = y := by unfold cmpI; split <;> (try split) <;> omega
def orI : List Int → Int
 | [] => 0
 | x :: r => if x = 0 then orI r else x
theorem or_int (l : List Int) : m_cmp_Or_int l = some (orI l) := by
 unfold m_cmp_Or_int
 refine (forI_eq (f := fun l _ => some (orI l)) ?_ ?_ _ _ _)
 ·intros; rfl
 ·intro j x r s Z hZ
  simp only [orI, hZ]
  by_cases h : x = 0 <;> simp [h]
def cmpL (a b : GLink) : Int := orI [cmpI a.A b.A, cmpI a.B b.B]
theorem top_compare (a b : GLink) : m_topology_compare a b = some (cmpL a b) := by
 unfold m_topology_compare; simp only [cmp_int, bnd_s, or_int]; rfl
theorem top_byID (r : GRouter) (id : Int) : m_topology_byID r id = some (cmpI r.ID id) := by
 unfold m_topology_byID; simp only [cmp_int, bnd_s]
theorem cmpL_lt {a b : GLink} : cmpL a b < 0 ↔ ltL a b = true := by
 have : cmpL a b < 0 ↔ a.A < b.A ∨ (a.A = b.A ∧ a.B < b.B) := by
  simp only [cmpL, orI]
  split
  ·rename_i h
   rw [cmpI_eq] at h
   split
   ·rename_i h2; rw [cmpI_eq] at h2; omega
   ·rw [cmpI_lt]; omega
  ·rename_i h
   rw [cmpI_eq] at h
   rw [cmpI_lt]; omega
 rw [this]; simp [ltL]
theorem cmpL_eq {a b : GLink} : cmpL a b = 0 ↔ a.A = b.A ∧ a.B = b.B := by
 simp only [cmpL, orI]
 split
 ·rename_i h
  rw [cmpI_eq] at h
  split
  ·rename_i h2; rw [cmpI_eq] at h2; omega
  ·rename_i h2; rw [cmpI_eq] at h2 ⊢; omega
 ·rename_i h
  rw [cmpI_eq] at h ⊢; omega
/-! the binary search -/
def bsG {α : Type} [Inhabited α] (f : α → Int) (l : List α) (i j : Nat) : Nat :=
 if h : i < j then if f (el l ((i + j) / 2 : Nat)) < 0 then bsG f l ((i + j) / 2 + 1) j else bsG f l i ((i + j) / 2) else i
 termination_by j - i
 decreasing_by all_goals omega
def bsR {α : Type} [Inhabited α] (f : α → Int) (l : List α) : Nat := bsG f l 0 l.length
def bsT {α : Type} [Inhabited α] (f : α → Int) (l : List α) : Bool := decide (bsR f l < l.length) && decide (f (el l (bsR f l)) = 0)
theorem bsG_lt {α : Type} [Inhabited α] {f : α → Int} {l : List α} {i j : Nat} (h : i < j) (hf : f (el l ((i + j) / 2 : Nat)) < 0) : bsG f l i j = bsG f l ((i + j) / 2 + 1) j := by
 rw [bsG, dif_pos h, if_pos hf]
theorem bsG_ge {α : Type} [Inhabited α] {f : α → Int} {l : List α} {i j : Nat} (h : i < j) (hf : ¬ f (el l ((i + j) / 2 : Nat)) < 0) : bsG f l i j = bsG f l i ((i + j) / 2) := by
 rw [bsG, dif_pos h, if_neg hf]
theorem bsG_end {α : Type} [Inhabited α] {f : α → Int} {l : List α} {i j : Nat} (h : j ≤ i) : bsG f l i j = i := by
 rw [bsG, dif_neg (by omega)]
theorem el_nat {α : Type} [Inhabited α] {l : List α} {i : Nat} (h : i < l.length) : el l i = l[i] := by
 simp [el, List.getD_eq_getElem?_getD, h]
theorem el_mem {α : Type} [Inhabited α] {l : List α} {i : Nat} (h : i < l.length) : el l i ∈ l := by
 rw [el_nat h]; exact List.getElem_mem h
theorem elO_el {α : Type} [Inhabited α] {l : List α} {i : Nat} (h : i < l.length) : elO l (i : Int) = some (el l i) := by
 unfold elO; rw [if_pos (by omega), el_nat h]; simp [h]
theorem half_eq {i j : Nat} (h : i + j ≤ 4611686018427387904) : w64 (Int.fdiv (IntKind.wrap .u64 (w64 ((i : Int) + (j : Int)))) (2 ^ min (1:Int).toNat 64)) = (((i + j) / 2 : Nat) : Int) := by
 have e1 : w64 ((i : Int) + (j : Int)) = ((i + j : Nat) : Int) := by rw [w64_id (by omega) (by omega)]; simp
 have e2 : IntKind.wrap .u64 ((i + j : Nat) : Int) = ((i + j : Nat) : Int) := inK_u64 (by omega) (by omega)
 rw [e1, e2]
 have e3 : (2 : Int) ^ min (1:Int).toNat 64 = 2 := rfl
 rw [e3, Int.fdiv_eq_ediv_of_nonneg _ (by omega)]
 rw [w64_id (by omega) (by omega)]; simp
theorem bs_loop {α : Type} [Inhabited α] {F : ((Int × Int) → Option (Int × Bool)) → (Int × Int) → Option (Int × Bool)} (l : List α) (f : α → Int) (hl : l.length ≤ 1000000)
  (hF : ∀ (i j : Nat) Z, j ≤ l.length → F Z ((i : Int), (j : Int)) = if h : i < j then (if f (el l ((i + j) / 2 : Nat)) < 0 then Z ((((i + j) / 2 + 1 : Nat) : Int), (j : Int)) else Z ((i : Int), (((i + j) / 2 : Nat) : Int))) else some ((i : Int), decide (i < l.length) && decide (f (el l i) = 0))) :
  whl F ((0 : Int), (l.length : Int)) = some ((bsR f l : Int), bsT f l) := by
 refine Ok.eq (Ok.whl (I := fun s => ∃ i j : Nat, s = ((i : Int), (j : Int)) ∧ i ≤ j ∧ j ≤ l.length ∧ bsG f l i j = bsR f l) (μ := fun s => (s.2 - s.1).toNat) ⟨0, l.length, rfl, by omega, by omega, rfl⟩ ?_ ?_)
 ·show ((l.length : Int) - 0).toNat < _; omega
 ·rintro s Z ⟨i, j, rfl, h1, h2, h3⟩ hz
  rw [hF i j Z h2]
  split
  ·rename_i hij
   split
   ·rename_i hf
    exact hz _ ⟨_, _, rfl, by omega, h2, by rw [← h3, bsG_lt hij hf]⟩ (by show ((j : Int) - _).toNat < ((j : Int) - i).toNat; omega)
   ·rename_i hf
    exact hz _ ⟨_, _, rfl, by omega, by omega, by rw [← h3, bsG_ge hij hf]⟩ (by show ((((i + j) / 2 : Nat) : Int) - i).toNat < ((j : Int) - i).toNat; omega)
  ·rename_i hij
   have : bsR f l = i := by rw [← h3, bsG_end (by omega)]
   exact ⟨_, rfl, by simp only [bsT, this]⟩
theorem bsRt (l : List GRouter) (x : Int) (c : GRouter → Int → Option Int) (f : GRouter → Int) (hl : l.length ≤ 1000000) (hc : ∀ r, c r x = some (f r)) : m_slices_BinarySearchFunc_Lapi_Router_api_Router_int l x c = some ((bsR f l : Int), bsT f l) := by
 unfold m_slices_BinarySearchFunc_Lapi_Router_api_Router_int
 refine bs_loop l f hl fun i j Z hj => ?_
 by_cases hij : i < j
 ·rw [dif_pos hij]
  simp only [half_eq (i := i) (j := j) (by omega), elO_el (show (i + j) / 2 < l.length by omega), bnd_s, hc, cond_d]
  rw [if_pos (by omega), w64_id (by omega) (by omega)]
  rfl
 ·rw [dif_neg hij]
  simp only [cond_d]
  rw [if_neg (by omega)]
  by_cases hi : i < l.length
  ·rw [if_pos (by omega), elO_el hi]; simp only [bnd_s, hc]; simp [hi]
  ·rw [if_neg (by omega)]; simp [hi]
theorem bsLk (l : List GLink) (x : GLink) (c : GLink → GLink → Option Int) (f : GLink → Int) (hl : l.length ≤ 1000000) (hc : ∀ r, c r x = some (f r)) : m_slices_BinarySearchFunc_Lapi_Link_api_Link_api_Link l x c = some ((bsR f l : Int), bsT f l) := by
 unfold m_slices_BinarySearchFunc_Lapi_Link_api_Link_api_Link
 refine bs_loop l f hl fun i j Z hj => ?_
 by_cases hij : i < j
 ·rw [dif_pos hij]
  simp only [half_eq (i := i) (j := j) (by omega), elO_el (show (i + j) / 2 < l.length by omega), bnd_s, hc, cond_d]
  rw [if_pos (by omega), w64_id (by omega) (by omega)]
  rfl
 ·rw [dif_neg hij]
  simp only [cond_d]
  rw [if_neg (by omega)]
  by_cases hi : i < l.length
  ·rw [if_pos (by omega), elO_el hi]; simp only [bnd_s, hc]; simp [hi]
  ·rw [if_neg (by omega)]; simp [hi]
theorem bsG_spec {α : Type} [Inhabited α] {f : α → Int} {l : List α} (hm : ∀ a b : Nat, a ≤ b → b < l.length → f (el l a) ≤ f (el l b)) : ∀ (n i j : Nat), j - i ≤ n → i ≤ j → j ≤ l.length → (∀ m : Nat, m < i → f (el l m) < 0) → (∀ m : Nat, j ≤ m → m < l.length → 0 ≤ f (el l m)) →
  bsG f l i j ≤ l.length ∧ (∀ m : Nat, m < bsG f l i j → f (el l m) < 0) ∧ (∀ m : Nat, bsG f l i j ≤ m → m < l.length → 0 ≤ f (el l m)) := by
 intro n
 induction n with
 | zero =>
  intro i j hn hij hj h1 h2
  rw [bsG_end (by omega)]
  exact ⟨by omega, h1, fun m hm' => h2 m (by omega)⟩
 | succ n ih =>
  intro i j hn hij hj h1 h2
  by_cases h : i < j
  ·by_cases hf : f (el l ((i + j) / 2 : Nat)) < 0
   ·rw [bsG_lt h hf]
    refine ih _ _ (by omega) (by omega) hj (fun m hm' => ?_) h2
    have := hm m ((i + j) / 2) (by omega) (by omega)
    omega
   ·rw [bsG_ge h hf]
    refine ih _ _ (by omega) (by omega) (by omega) h1 (fun m hm' hml => ?_)
    have := hm ((i + j) / 2) m hm' hml
    omega
  ·rw [bsG_end (by omega)]
   exact ⟨by omega, h1, fun m hm' => h2 m (by omega)⟩
theorem bsR_spec {α : Type} [Inhabited α] {f : α → Int} {l : List α} (hm : ∀ a b : Nat, a ≤ b → b < l.length → f (el l a) ≤ f (el l b)) :
  bsR f l ≤ l.length ∧ (∀ m : Nat, m < bsR f l → f (el l m) < 0) ∧ (∀ m : Nat, bsR f l ≤ m → m < l.length → 0 ≤ f (el l m)) :=
 bsG_spec hm l.length 0 l.length (by omega) (by omega) (by omega) (fun m h => by omega) (fun m h1 h2 => by omega)
theorem bsT_iff {α : Type} [Inhabited α] {f : α → Int} {l : List α} (hm : ∀ a b : Nat, a ≤ b → b < l.length → f (el l a) ≤ f (el l b)) : bsT f l = true ↔ ∃ x ∈ l, f x = 0 := by
 obtain ⟨h1, h2, h3⟩ := bsR_spec hm
 simp only [bsT, Bool.and_eq_true, decide_eq_true_eq]
 constructor
 ·rintro ⟨q1, q2⟩
  exact ⟨_, el_mem q1, q2⟩
 ·rintro ⟨x, hx, hf⟩
  obtain ⟨m, hm1, rfl⟩ := List.getElem_of_mem hx
  rw [← el_nat hm1] at hf
  have hle : bsR f l ≤ m := by
   by_cases q : m < bsR f l
   ·have := h2 m q; omega
   ·omega
  have hlt : bsR f l < l.length := by omega
  have := h3 _ (Nat.le_refl _) hlt
  have := hm _ _ hle hm1
  exact ⟨hlt, by omega⟩
theorem mono_of_pairwise {α : Type} [Inhabited α] {f : α → Int} {l : List α} (h : l.Pairwise (fun a b => f a ≤ f b)) : ∀ a b : Nat, a ≤ b → b < l.length → f (el l a) ≤ f (el l b) := by
 intro a b hab hb
 rcases Nat.lt_or_eq_of_le hab with hab | rfl
 ·have := List.pairwise_iff_getElem.1 h a b (by omega) hb hab
  rwa [el_nat (by omega), el_nat hb]
 ·exact Int.le_refl _
theorem adj_pairwise {α : Type} {p : α → α → Bool} (ht : ∀ a b c, p a b = true → p b c = true → p a c = true) : ∀ {l : List α}, adjB p l = true → l.Pairwise (fun a b => p a b = true)
 | [], _ => List.Pairwise.nil
 | [x], _ => by simp
 | a :: b :: r, h => by
  simp only [adjB, Bool.and_eq_true] at h
  have ih := adj_pairwise ht h.2
  rw [List.pairwise_cons]
  refine ⟨fun z hz => ?_, ih⟩
  rcases List.mem_cons.1 hz with rfl | hz
  ·exact h.1
  ·exact ht _ _ _ h.1 ((List.pairwise_cons.1 ih).1 z hz)
theorem pairwise_adj {α : Type} {p : α → α → Bool} : ∀ {l : List α}, l.Pairwise (fun a b => p a b = true) → adjB p l = true
 | [], _ => rfl
 | [x], _ => rfl
 | a :: b :: r, h => by
  rw [List.pairwise_cons] at h
  simp only [adjB, Bool.and_eq_true]
  exact ⟨h.1 b (by simp), pairwise_adj h.2⟩
theorem asc_rs {t : GTopology} (h : kB t = true) : t.Routers.Pairwise (fun a b => a.ID < b.ID) := by
 have := adj_pairwise (p := fun a b : GRouter => decide (a.ID < b.ID)) (fun a b c h1 h2 => by simp at h1 h2 ⊢; omega) h
 exact this.imp (fun h => by simpa using h)
theorem mono_rs {t : GTopology} (h : kB t = true) (id : Int) : ∀ a b : Nat, a ≤ b → b < t.Routers.length → cmpI (el t.Routers a).ID id ≤ cmpI (el t.Routers b).ID id :=
 mono_of_pairwise (f := fun r : GRouter => cmpI r.ID id) ((asc_rs h).imp (fun {a b} h => by unfold cmpI; split <;> (try split) <;> (try split) <;> (try split) <;> omega))
def unkB (t : GTopology) (id : Int) : Bool := !bsT (fun r => cmpI r.ID id) t.Routers
theorem unkB_eq {t : GTopology} (h : kB t = true) (id : Int) : unkB t id = !hasB t id := by
 simp only [unkB, hasB]
 congr 1
 rw [Bool.eq_iff_iff, bsT_iff (mono_rs h id)]
 simp [cmpI_eq]
theorem top_check (t : GTopology) : m_topology_Check t = some (chkT t) := by
 unfold m_topology_Check chkT
 by_cases hlen : (decide (24 < (t.Routers.length : Int)) || decide (60 < (t.Links.length : Int))) = true
 ·rw [hlen]; rfl
 rw [Bool.not_eq_true] at hlen
 rw [hlen]
 simp only [cond_false]
 simp only [Bool.or_eq_false_iff, decide_eq_false_iff_not] at hlen
 rw [cfR t.Routers _ badR (fun x => by simp only [m_topology_Check_1, m_topology_in, bnd_s, badR]; congr 1; rw [Bool.eq_iff_iff]; simp)]
 simp only [bnd_s]
 unfold kA
 cases t.Routers.any badR
 case true => rfl
 simp only [cond_false]
 refine (adj_loop0 (fun a b : GRouter => decide (a.ID < b.ID)) (some 25) ?_ ?_ _).trans ?_
 ·intros; rfl
 ·intro j x y r q s Z h hj
  simp only [jn, elO_prev h hj (by omega), bnd_s, cond_d]
  rw [if_pos (by omega)]
  split <;> split <;> first | rfl | omega
 cases hB : kB t
 case false => unfold kB at hB; rw [hB]; rfl
 have hB' := hB
 unfold kB at hB'
 rw [hB']
 simp only [cond_true]
 rw [cfL t.Links m_topology_Check_3 badL (fun x => by
  simp only [m_topology_Check_3, m_topology_in, bnd_s, badL, costB]
  simp only [cond_d, Bool.not_and, Bool.cond_eq_ite, Bool.or_eq_true, Bool.not_eq_true', decide_eq_false_iff_not]
  split
  ·congr 1; symm; rw [Bool.eq_iff_iff]; simp; omega
  ·split
   ·congr 1; symm; rw [Bool.eq_iff_iff]; simp; omega
   ·congr 1; rw [Bool.eq_iff_iff]; simp; omega)]
 simp only [bnd_s]
 unfold kC
 cases t.Links.any badL
 case true => rfl
 simp only [cond_false]
 have hu : ∀ id, m_topology_Check_2 id t = some (!hasB t id) := fun id => by
  unfold m_topology_Check_2
  rw [bsRt t.Routers id _ (fun r => cmpI r.ID id) (by omega) (fun r => top_byID r id)]
  simp only [bnd_s]
  rw [← unkB_eq hB]; rfl
 rw [cfL t.Links _ (fun l => !hasB t l.A || !hasB t l.B) (fun x => by
  simp only [m_topology_Check_4, hu, bnd_s]
  cases hasB t x.A <;> rfl)]
 simp only [bnd_s]
 unfold kD
 cases t.Links.any _
 case true => rfl
 simp only [cond_false]
 rw [cfL t.Links m_topology_Check_5 (fun l => decide (l.B ≤ l.A)) (fun x => rfl)]
 simp only [bnd_s]
 unfold kE
 cases t.Links.any _
 case true => rfl
 simp only [cond_false]
 refine (adj_loop0 ltL (some 25) ?_ ?_ _).trans ?_
 ·intros; rfl
 ·intro j x y r q s Z h hj
  simp only [jn, elO_prev h hj (by omega), bnd_s, top_compare, cond_d]
  rw [if_pos (by omega)]
  cases hlt : ltL y x
  ·have : ¬ cmpL y x < 0 := by rw [cmpL_lt, hlt]; simp
   rw [if_pos (by omega)]; rfl
  ·have := cmpL_lt.2 hlt
   rw [if_neg (by omega)]; rfl
 unfold kF
 cases adjB ltL t.Links <;> rfl
end Go.Proofs.Ytflifgcoleknlaa

/- Plain: what the tape's readers give. No condition. -/
namespace Go.Proofs.Ytflifgcoleknlaa
set_option linter.all false
open Go
def TapeOk (t : GTape) : Prop := 0 ≤ t.At ∧ t.At ≤ t.L.length ∧ t.L.length ≤ 600
theorem w64_hi (n : Int) : w64 n ≤ 9223372036854775807 ∧ -9223372036854775808 ≤ w64 n := by
 unfold w64
 rw [IntKind.wrap_i64]; omega
theorem cut_ok {x n : Int} (hn : n ≤ 9223372036854775807) : Ok (m_mk_Cut x n) (fun r => 0 ≤ r ∧ (1 ≤ n → r < n) ∧ (n < 1 → r = 0)) := by
 unfold m_mk_Cut
 refine Ok.cs (fun h => Ok.s ?_) fun h => ?_
 ·simp at h; omega
 have h : 1 ≤ n := by simpa using h
 have h1 : Int.tmod x n < n := Int.tmod_lt_of_pos _ (by omega)
 have h2 : -n < Int.tmod x n := Int.lt_tmod_of_pos _ (by omega)
 refine Ok.chk (by simp; omega) ?_
 refine Ok.jn (fun r => 0 ≤ r ∧ r < n) (fun s hs => Ok.s ⟨hs.1, fun _ => hs.2, by omega⟩) fun J hJ => ?_
 refine Ok.cs (fun hc => hJ _ ?_) fun hc => hJ _ ?_
 ·simp at hc; rw [w64_id (by omega) (by omega)]; omega
 ·simp at hc; omega
theorem raw_ok {t : GTape} (h : TapeOk t) : Ok (m_mk_Tape_Raw t) (fun p => TapeOk p.2) := by
 obtain ⟨h0, h1, h2⟩ := h
 unfold m_mk_Tape_Raw
 refine Ok.cs (fun _ => Ok.s ⟨h0, h1, h2⟩) fun hc => ?_
 simp at hc
 have e : w64 (t.At + 1) = t.At + 1 := w64_id (by omega) (by omega)
 rw [e, w64_id (by omega) (by omega)]
 refine Ok.bnd (elO_ok (by omega) (by omega)) fun a _ => Ok.s ⟨?_, ?_, h2⟩ <;> show _ <;> simp <;> omega
theorem next_ok {t : GTape} {n : Int} (h : TapeOk t) (hn : n ≤ 9223372036854775807) : Ok (m_mk_Tape_Next t n) (fun p => (0 ≤ p.1 ∧ (1 ≤ n → p.1 < n) ∧ (n < 1 → p.1 = 0)) ∧ TapeOk p.2) := by
 unfold m_mk_Tape_Next
 exact Ok.bnd (raw_ok h) fun p hp => Ok.bnd (cut_ok hn) fun r hr => Ok.s ⟨hr, hp⟩
theorem range_ok {t : GTape} {low high : Int} (h : TapeOk t) : Ok (m_mk_Tape_Range t low high) (fun p => (-2305843009213693952 ≤ low → low ≤ high → high < 2305843009213693952 → low ≤ p.1 ∧ p.1 ≤ high) ∧ TapeOk p.2) := by
 unfold m_mk_Tape_Range
 refine Ok.bnd (next_ok h (w64_hi _).1) fun p hp => Ok.s ⟨fun h1 h2 h3 => ?_, hp.2⟩
 obtain ⟨⟨q1, q2, _⟩, _⟩ := hp
 rw [w64_id (n := high - low) (by omega) (by omega), w64_id (n := high - low + 1) (by omega) (by omega)] at q2
 show low ≤ w64 (low + p.1) ∧ w64 (low + p.1) ≤ high
 rw [w64_id (by omega) (by omega)]; omega
theorem pick_ok {t : GTape} {l : List Int} (h : TapeOk t) (h0 : 1 ≤ l.length) (h1 : l.length ≤ 1000000) : Ok (m_mk_Tape_Pick t l) (fun p => p.1 ∈ l ∧ TapeOk p.2) := by
 unfold m_mk_Tape_Pick
 refine Ok.bnd (next_ok h (by omega)) fun p hp => ?_
 exact Ok.bnd (elO_ok hp.1.1 (hp.1.2.1 (by omega))) fun a ha => Ok.s ⟨ha.1, hp.2⟩
theorem one_ok {t : GTape} {n : Int} (h : TapeOk t) (hn : n ≤ 9223372036854775807) : Ok (m_mk_Tape_One t n) (fun p => TapeOk p.2) := by
 unfold m_mk_Tape_One
 exact Ok.bnd (next_ok h hn) fun p hp => Ok.s hp.2
theorem wild_ok {t : GTape} (h : TapeOk t) : Ok (m_mk_Tape_Wild t) (fun p => TapeOk p.2) := by
 unfold m_mk_Tape_Wild
 exact Ok.bnd (pick_ok h (by decide) (by decide)) fun p hp => Ok.s hp.2
theorem new_ok (l : List Int) : Ok (m_mk_New l) TapeOk := by
 unfold m_mk_New
 refine Ok.jn (fun m : List Int => m.length ≤ 600) (fun s hs => Ok.s ⟨by simp, by simp, hs⟩) fun J hJ => ?_
 refine Ok.cs (fun hc => ?_) fun hc => hJ _ ?_
 ·simp at hc
  exact Ok.bnd (sli_ok ⟨by omega, by omega, by omega⟩) fun m hm => hJ _ (by omega)
 ·simp at hc; omega
theorem ord_ok {l : List GLink} (hl : l.length ≤ 1000000) : Ok (m_mk_order l) (fun m => m.length = l.length) := by
 unfold m_mk_order
 refine Ok.forM (fun j m => m.length = j) ?_ _ rfl fun s hs => Ok.s hs
 intro j x s Z hj hx hI hZ
 refine Ok.whl (fun at1 : Int => 0 ≤ at1 ∧ at1 ≤ s.length) (fun at1 => ((s.length : Int) - at1).toNat) ⟨by omega, by omega⟩ (by omega) ?_
 intro a Z2 ⟨ha0, ha1⟩ hZ2
 refine Ok.jn (fun v : Bool => v = true → a < s.length) ?_ ?_
 ·intro v hv
  refine Ok.cs (fun h => ?_) fun h => ?_
  ·have := hv h
   rw [w64_id (by omega) (by omega)]
   exact hZ2 _ (by omega) (by omega)
  ·refine Ok.bnd (sli_ok ⟨by omega, by omega, by omega⟩) fun l1 h1 => ?_
   refine Ok.bnd (app_ok (by simp; omega)) fun l2 h2 => ?_
   refine Ok.bnd (app_ok (by simp at h2 ⊢; omega)) fun l3 h3 => ?_
   refine Ok.bnd (sli_ok ⟨by omega, by omega, by omega⟩) fun l4 h4 => ?_
   refine Ok.bnd (app_ok (by simp at h2 h3 ⊢; omega)) fun l5 h5 => ?_
   exact hZ _ (by simp at h2 h3; omega)
 ·intro J hJ
  refine Ok.cs (fun h => ?_) fun h => hJ _ (by simp)
  simp at h
  refine Ok.bnd (elO_ok ha0 h) fun e he => ?_
  exact Ok.cs (fun _ => hJ _ fun _ => h) fun _ => Ok.cs (fun _ => hJ _ fun _ => h) fun _ => hJ _ (by simp)
/-- what is so of the sizes of a topology from the tape -/
def TopOk (g : GTopology) : Prop := 1 ≤ g.Routers.length ∧ g.Routers.length ≤ 60 ∧ g.Links.length ≤ 700
theorem topol_ok {t : GTape} {most n : Int} (h : TapeOk t) (hm : 1 ≤ most ∧ most ≤ 24) (hn : n ≤ 9223372036854775807) : Ok (m_mk_Tape_Topology t most n) (fun p => TopOk p.1 ∧ TapeOk p.2) := by
 unfold m_mk_Tape_Topology
 refine Ok.bnd (range_ok h) fun p hp => ?_
 obtain ⟨hk, hp⟩ := hp
 have hk := hk (by omega) (by omega) (by omega)
 refine Ok.chk (by simp; omega) ?_
 refine Ok.forN (fun j m => (m.length : Int) = j - 1) 1 (p.1 + 1) ?_ ?_ _ _ _ rfl (by omega) (by omega) (by simp)
 ·intro i s Z h1 h2 hI hZ
  refine Ok.bnd (app_ok (by simp; omega)) fun l1 hl1 => hZ _ ?_
  simp at hl1; omega
 intro i rs hi1 hi2 hrs
 have hi2 := hi2 (by omega)
 subst hi2
 refine Ok.bnd (pick_ok hp (by decide) (by decide)) fun c hc => ?_
 have hcost : 1 ≤ c.1 ∧ c.1 ≤ 5 := by have := hc.1; simp at this; omega
 refine Ok.chk (by simp; omega) ?_
 refine Ok.forN (fun j (s : List GLink × List Int × Int) => (s.1.length : Int) ≤ 24 * (j - 2) ∧ TapeOk (GTape.mk s.2.1 s.2.2)) 2 (if 2 ≤ p.1 + 1 then p.1 + 1 else 2) ?_ ?_ _ _ _ ?_ (by omega) ?_ ⟨by simp, hc.2⟩
 ·intro b s Z hb1 hb2 hI hZ
  have hb3 : b < p.1 + 1 := by split at hb2 <;> omega
  obtain ⟨ms, L, At⟩ := s
  obtain ⟨hlen, ht⟩ := hI
  refine Ok.bnd (range_ok ht) fun tr htr => ?_
  refine Ok.bnd (one_ok htr.2 (by omega)) fun sk hsk => ?_
  refine Ok.chk (by simp; omega) ?_
  refine Ok.forN (fun a (s : List GLink × List Int × Int) => (s.1.length : Int) ≤ 24 * (b - 2) + (a - 1) ∧ TapeOk (GTape.mk s.2.1 s.2.2)) 1 b ?_ ?_ _ _ _ rfl (by omega) (by omega) ⟨by simp at hlen ⊢; omega, hsk⟩
  ·intro a s Z3 ha1 ha2 hI3 hZ3
   obtain ⟨m5, m6, m7⟩ := s
   obtain ⟨hl5, ht5⟩ := hI3
   simp only at hl5
   refine Ok.jn (fun s : List Int × Int × List GLink => (s.2.2.length : Int) ≤ 24 * (b - 2) + a ∧ TapeOk (GTape.mk s.1 s.2.1)) (fun s hs => hZ3 _ ⟨by have h := hs.1; obtain ⟨_, _, _⟩ := s; simp only at h ⊢; omega, hs.2⟩) fun J1 hJ1 => ?_
   refine Ok.jn (fun s : Bool × List Int × Int => TapeOk (GTape.mk s.2.1 s.2.2)) (fun s hs => ?_) fun J2 hJ2 => ?_
   ·obtain ⟨v, m11, m12⟩ := s
    refine Ok.cs (fun _ => ?_) fun _ => hJ1 _ ⟨by simp only; omega, hs⟩
    refine Ok.bnd (range_ok hs) fun q7 h7 => ?_
    refine Ok.bnd (range_ok h7.2) fun q8 h8 => ?_
    refine Ok.bnd (next_ok h8.2 (by omega)) fun q9 h9 => ?_
    refine Ok.bnd (app_ok (by simp; omega)) fun l2 hl2 => hJ1 _ ⟨?_, h9.2⟩
    simp at hl2; simp only; omega
   ·refine Ok.cs (fun _ => ?_) fun _ => Ok.bnd (one_ok ht5 (by omega)) fun q h => hJ2 _ h
    exact Ok.cs (fun _ => hJ2 _ ht5) fun _ => Ok.bnd (one_ok ht5 (by omega)) fun q h => hJ2 _ h
  ·intro a s ha1 ha2 hI3
   have ha2 := ha2 (by omega)
   exact hZ _ ⟨by have := hI3.1; simp only; omega, hI3.2⟩
 ·intro b s hb1 hb2 hI
  have hb2 := hb2 (by split <;> omega)
  have hb3 : b ≤ 25 := by split at hb2 <;> omega
  obtain ⟨m2, m3, m4⟩ := s
  obtain ⟨hlen, ht⟩ := hI
  simp only at hlen
  refine Ok.bnd (ord_ok (by omega)) fun l hl => ?_
  refine Ok.jn (fun s : List Int × Int × List GRouter × List GLink => TopOk (GTopology.mk s.2.2.1 s.2.2.2) ∧ TapeOk (GTape.mk s.1 s.2.1)) (fun s hs => Ok.s hs) fun J3 hJ3 => ?_
  refine Ok.jn (fun s : Bool × List Int × Int => TapeOk (GTape.mk s.2.1 s.2.2)) (fun s hs => ?_) fun J4 hJ4 => ?_
  ·obtain ⟨v, m17, m18⟩ := s
   have base : ∀ (l' : List GLink) (t' : GTape), l'.length ≤ 700 → TapeOk t' → Ok (J3 (t'.L, t'.At, rs, l')) _ := fun l' t' h1 h2 => hJ3 _ ⟨⟨by simp only; omega, by simp only; omega, h1⟩, h2⟩
   refine Ok.cs (fun _ => ?_) fun _ => base l (GTape.mk m17 m18) (by omega) hs
   refine Ok.bnd (next_ok hs (by omega)) fun q hq => ?_
   refine Ok.cs (fun _ => ?_) fun _ => ?_
   ·refine Ok.bnd (pick_ok hq.2 (by decide) (by decide)) fun q2 hq2 => ?_
    refine Ok.bnd (app_ok (by simp; omega)) fun l3 hl3 => hJ3 _ ⟨⟨?_, ?_, ?_⟩, hq2.2⟩ <;> simp at hl3 ⊢ <;> omega
   refine Ok.cs (fun _ => ?_) fun _ => ?_
   ·refine Ok.bnd (next_ok hq.2 (by omega)) fun q2 hq2 => ?_
    refine Ok.bnd (next_ok hq2.2 (by omega)) fun q3 hq3 => ?_
    refine Ok.bnd (app_ok (by simp; omega)) fun l3 hl3 => base _ _ (by simp at hl3; omega) hq3.2
   have wild : ∀ (f : GLink → Int → GLink), Ok (bif decide ((0:Int) < (l.length:Int)) then bnd (m_mk_Tape_Next q.2 (l.length:Int)) fun (vx_16 : Int × GTape) => bnd (m_mk_Tape_Wild vx_16.2) fun (vx_17 : Int × GTape) => bnd (elO l vx_16.1) fun (e_1 : GLink) => bnd (setO l vx_16.1 (f e_1 vx_17.1)) fun (l_5 : List GLink) => J3 (vx_17.2.L, vx_17.2.At, rs, l_5) else J3 (q.2.L, q.2.At, rs, l)) _ := fun f => by
    refine Ok.cs (fun h => ?_) fun _ => base l _ (by omega) hq.2
    simp at h
    refine Ok.bnd (next_ok hq.2 (by omega)) fun q2 hq2 => ?_
    refine Ok.bnd (wild_ok hq2.2) fun q3 hq3 => ?_
    have hlt := hq2.1.2.1 (by omega)
    refine Ok.bnd (elO_ok hq2.1.1 hlt) fun e _ => ?_
    refine Ok.bnd (set_ok hq2.1.1 hlt) fun l5 h5 => base _ _ (by omega) hq3
   refine Ok.cs (fun _ => wild (fun e x => GLink.mk e.A e.B x e.CostB e.Capacity)) fun _ => ?_
   refine Ok.cs (fun _ => wild (fun e x => GLink.mk e.A e.B e.CostA x e.Capacity)) fun _ => ?_
   refine Ok.cs (fun _ => wild (fun e x => GLink.mk e.A e.B e.CostA e.CostB x)) fun _ => ?_
   refine Ok.cs (fun _ => ?_) fun _ => ?_
   ·refine Ok.cs (fun h => ?_) fun _ => base l _ (by omega) hq.2
    simp at h
    refine Ok.bnd (next_ok hq.2 (by omega)) fun q2 hq2 => ?_
    refine Ok.bnd (elO_ok hq2.1.1 (hq2.1.2.1 (by omega))) fun e _ => ?_
    refine Ok.bnd (app_ok (by simp; omega)) fun l3 hl3 => base _ _ (by simp at hl3; omega) hq2.2
   ·refine Ok.forN (fun j m => (m.length : Int) ≤ 24 + (j - 50) ∧ 1 ≤ m.length) 50 75 ?_ ?_ _ _ _ rfl (by omega) (by omega) ⟨by omega, by omega⟩
    ·intro i s Z h1 h2 hI hZ
     refine Ok.bnd (app_ok (by simp; omega)) fun l1 hl1 => hZ _ ?_
     simp at hl1; omega
    ·intro i s h1 h2 hI
     have h2 := h2 (by omega)
     exact hJ3 _ ⟨⟨by simp only; omega, by simp only; omega, by simp only; omega⟩, hq.2⟩
  ·refine Ok.cs (fun _ => Ok.bnd (one_ok ht hn) fun q hq => hJ4 _ hq) fun _ => hJ4 _ ht
 ·split <;> omega
 ·split <;> omega
theorem router_ok {t : GTape} {g : GTopology} {n : Int} (h : TapeOk t) (hg : g.Routers.length ≤ 1000000) (hn : n ≤ 9223372036854775807) : Ok (m_mk_Tape_Router t g n) (fun p => TapeOk p.2) := by
 unfold m_mk_Tape_Router
 refine Ok.jn (fun s : Bool × List Int × Int => (s.1 = false → g.Routers.length ≠ 0) ∧ TapeOk (GTape.mk s.2.1 s.2.2)) (fun s hs => ?_) fun J1 hJ1 => ?_
 ·obtain ⟨v, m1, m2⟩ := s
  refine Ok.cs (fun _ => ?_) fun hv => ?_
  ·exact Ok.bnd (pick_ok hs.2 (by decide) (by decide)) fun q hq => Ok.s hq.2
  ·have := hs.1 hv
   refine Ok.bnd (next_ok hs.2 (by omega)) fun q hq => ?_
   exact Ok.bnd (elO_ok hq.1.1 (hq.1.2.1 (by omega))) fun e _ => Ok.s hq.2
 ·refine Ok.cs (fun _ => ?_) fun _ => hJ1 _ ⟨fun h => by simp at h; simp; exact h, h⟩
  refine Ok.bnd (one_ok h hn) fun q hq => ?_
  exact Ok.cs (fun _ => hJ1 _ ⟨by simp, hq⟩) fun _ => hJ1 _ ⟨fun h => by simp at h; simp; exact h, hq⟩
end Go.Proofs.Ytflifgcoleknlaa

/- Plain: valid topologies, what is left without a failure, and what is looked up. No condition. -/
namespace Go.Proofs.Ytflifgcoleknlaa
set_option linter.all false
open Go
/-! ## lists -/
theorem any_dec {α : Type} [DecidableEq α] {l : List α} {v : α} : l.any (fun x => decide (x = v)) = decide (v ∈ l) := by
 rw [Bool.eq_iff_iff]; simp
theorem has_int (l : List Int) (n : Int) : m_ref04_Has l n = some (decide (n ∈ l)) := by
 unfold m_ref04_Has
 refine (any_loop (fun x : Int => decide (x = n)) (some true) ?_ _ _ _).trans ?_
 ·intros; rfl
 ·rw [any_dec]; cases decide (n ∈ l) <;> rfl
theorem ints_self (l : List Int) : m_ref04_Ints l l = some true := by
 unfold m_ref04_Ints
 simp only [decide_true, Bool.not_true, cond_false]
 refine forI_pre (L := l) (f := fun _ _ _ => some true) ?_ ?_ l [] () rfl
 ·intros; rfl
 ·intro p x r s Z h hZ
  subst h
  simp only [elO_at, bnd_s, decide_true, Bool.not_true, cond_false, hZ]
theorem ints_eq {a b : List Int} (h : a = b) : m_ref04_Ints a b = some true := by subst h; exact ints_self a
def hopB (l : List GHop) (a b : Int) : Bool := l.any fun h => eqGHop (GHop.mk a b) h
theorem ref_named (l : List GHop) (a b : Int) : m_ref05_Named l a b = some (hopB l a b || hopB l b a) := by
 unfold m_ref05_Named
 refine (any_loop (fun h : GHop => eqGHop (GHop.mk a b) h || eqGHop (GHop.mk b a) h) (some true) ?_ _ _ _).trans ?_
 ·intro j x Z s
  congr 1
  rw [Bool.eq_iff_iff]
  obtain ⟨f, t⟩ := x
  simp [eqGHop]
  constructor
  ·split
   ·rintro (h | h) <;> omega
   ·intro h; omega
  ·rintro (h | h)
   ·rw [if_pos (by omega)]; omega
   ·split <;> omega
 ·have : (l.any fun h : GHop => eqGHop (GHop.mk a b) h || eqGHop (GHop.mk b a) h) = (hopB l a b || hopB l b a) := by
   rw [Bool.eq_iff_iff]; simp [hopB, List.any_eq_true]
   constructor
   ·rintro ⟨x, hx, h | h⟩
    ·exact .inl ⟨x, hx, h⟩
    ·exact .inr ⟨x, hx, h⟩
   ·rintro (⟨x, hx, h⟩ | ⟨x, hx, h⟩)
    ·exact ⟨x, hx, .inl h⟩
    ·exact ⟨x, hx, .inr h⟩
  rw [this]; cases (hopB l a b || hopB l b a) <;> rfl
/-- a loop that keeps some -/
theorem filt_loop {α γ β : Type} {B : Int → α → (List γ → Option β) → List γ → Option β} {K : List γ → Option β} (p : α → Bool) (f : α → γ) :
  ∀ (l : List α) (j : Nat) (s : List γ), (∀ (j : Nat) x Z s, x ∈ l → s.length < 1000000 → B j x Z s = bif p x then Z (s ++ [f x]) else Z s) → l.length + s.length ≤ 1000000 → forI l j B K s = K (s ++ (l.filter p).map f)
 | [], j, s, _, _ => by simp [forI]
 | x :: r, j, s, hB, h => by
  simp only [List.length_cons] at h
  simp only [forI]
  rw [hB j x _ s (by simp) (by omega)]
  have hB' : ∀ (j : Nat) y Z s, y ∈ r → s.length < 1000000 → B j y Z s = bif p y then Z (s ++ [f y]) else Z s := fun j y Z s hy => hB j y Z s (by simp [hy])
  cases hp : p x
  ·rw [cond_false, filt_loop p f r (j + 1) s hB' (by omega), List.filter_cons_of_neg (by simp [hp])]
  ·rw [cond_true, filt_loop p f r (j + 1) (s ++ [f x]) hB' (by simp; omega), List.filter_cons_of_pos hp]
   simp
theorem app1 {α : Type} {s : List α} {x : α} (h : s.length < 1000000) : appO s [x] = some (s ++ [x]) := appO_ok (by simp; omega)
/-- strictly ascending lists with the same members are the same -/
theorem lt_unique {a b : List Int} (ha : a.Pairwise (· < ·)) (hb : b.Pairwise (· < ·)) (h : ∀ x, x ∈ a ↔ x ∈ b) : a = b := by
 induction a generalizing b with
 | nil =>
  cases b with
  | nil => rfl
  | cons y b => exact absurd ((h y).2 (by simp)) (by simp)
 | cons x a ih =>
  cases b with
  | nil => exact absurd ((h x).1 (by simp)) (by simp)
  | cons y b =>
   rw [List.pairwise_cons] at ha hb
   have hxy : x = y := by
    have h1 := (h x).1 (by simp)
    have h2 := (h y).2 (by simp)
    rw [List.mem_cons] at h1 h2
    rcases h1 with h1 | h1
    ·exact h1
    ·rcases h2 with h2 | h2
     ·exact h2.symm
     ·have := hb.1 _ h1; have := ha.1 _ h2; omega
   subst hxy
   congr 1
   refine ih ha.2 hb.2 fun z => ?_
   have := h z
   simp only [List.mem_cons] at this
   constructor
   ·intro hz
    rcases this.1 (.inr hz) with q | q
    ·subst q; have := ha.1 _ hz; omega
    ·exact q
   ·intro hz
    rcases this.2 (.inr hz) with q | q
    ·subst q; have := hb.1 _ hz; omega
    ·exact q
/-! ## valid topologies -/
structure Vt (t : GTopology) : Prop where
 nr : t.Routers.length ≤ 24
 nl : t.Links.length ≤ 60
 idr : ∀ r ∈ t.Routers, 1 ≤ r.ID ∧ r.ID ≤ 99
 asc : t.Routers.Pairwise (fun a b => a.ID < b.ID)
 okl : ∀ l ∈ t.Links, badL l = false
 ends : ∀ l ∈ t.Links, hasB t l.A = true ∧ hasB t l.B = true
 lt : ∀ l ∈ t.Links, l.A < l.B
 ascl : t.Links.Pairwise (fun a b => ltL a b = true)
theorem ltL_trans (a b c : GLink) (h1 : ltL a b = true) (h2 : ltL b c = true) : ltL a c = true := by
 simp [ltL] at *; omega
theorem any_false {α : Type} {l : List α} {p : α → Bool} : l.any p = false ↔ ∀ x ∈ l, p x = false := by
 rw [List.any_eq_false]; simp
theorem vt_iff {t : GTopology} : chkT t = 0 ↔ Vt t := by
 unfold chkT
 constructor
 ·intro h
  by_cases h1 : (decide (24 < (t.Routers.length : Int)) || decide (60 < (t.Links.length : Int))) = true
  ·rw [h1] at h; cases h
  simp only [Bool.not_eq_true] at h1
  rw [h1, cond_false] at h
  cases h2 : kA t <;> rw [h2] at h <;> first | cases h; done | skip
  cases h3 : kB t <;> rw [h3] at h <;> first | cases h; done | skip
  cases h4 : kC t <;> rw [h4] at h <;> first | cases h; done | skip
  cases h5 : kD t <;> rw [h5] at h <;> first | cases h; done | skip
  cases h6 : kE t <;> rw [h6] at h <;> first | cases h; done | skip
  cases h7 : kF t <;> rw [h7] at h <;> first | cases h; done | skip
  simp only [Bool.or_eq_false_iff, decide_eq_false_iff_not] at h1
  refine ⟨by omega, by omega, fun r hr => ?_, asc_rs h3, any_false.1 h4, fun l hl => ?_, fun l hl => ?_, adj_pairwise ltL_trans h7⟩
  ·have := any_false.1 h2 r hr; simp [badR] at this; omega
  ·have := any_false.1 h5 l hl; simpa using this
  ·have := any_false.1 h6 l hl; simpa using this
 ·intro h
  have h1 : (decide (24 < (t.Routers.length : Int)) || decide (60 < (t.Links.length : Int))) = false := by
   have := h.nr; have := h.nl; simp; omega
  have h2 : kA t = false := any_false.2 fun r hr => by have := h.idr r hr; simp [badR]; omega
  have h3 : kB t = true := pairwise_adj (h.asc.imp fun h => by simpa using h)
  have h4 : kC t = false := any_false.2 h.okl
  have h5 : kD t = false := any_false.2 fun l hl => by have := h.ends l hl; simp [this]
  have h6 : kE t = false := any_false.2 fun l hl => by have := h.lt l hl; simp; omega
  have h7 : kF t = true := pairwise_adj h.ascl
  rw [h1, h2, h3, h4, h5, h6, h7]; rfl
theorem top_valid (t : GTopology) : m_topology_valid t = some (decide (chkT t = 0)) := by
 unfold m_topology_valid; rw [top_check]; rfl
theorem hasB_iff {t : GTopology} {r : Int} : hasB t r = true ↔ ∃ x ∈ t.Routers, x.ID = r := by simp [hasB]
/-! ## without -/
def goneB (f : GFailure) (l : GLink) : Bool := decide (l.A ∈ f.Routers) || decide (l.B ∈ f.Routers) || hopB f.Links l.A l.B || hopB f.Links l.B l.A
def woT (t : GTopology) (f : GFailure) : GTopology := GTopology.mk (t.Routers.filter fun r => !decide (r.ID ∈ f.Routers)) (t.Links.filter fun l => !goneB f l)
theorem Vt.wo {t : GTopology} (h : Vt t) (f : GFailure) : Vt (woT t f) := by
 have sr : (woT t f).Routers.Sublist t.Routers := List.filter_sublist
 have sl : (woT t f).Links.Sublist t.Links := List.filter_sublist
 refine ⟨Nat.le_trans sr.length_le h.nr, Nat.le_trans sl.length_le h.nl, fun r hr => h.idr r (sr.subset hr), h.asc.sublist sr, fun l hl => h.okl l (sl.subset hl), fun l hl => ?_, fun l hl => h.lt l (sl.subset hl), h.ascl.sublist sl⟩
 have hm := List.mem_filter.1 hl
 have he := h.ends l hm.1
 have hg := hm.2
 simp [goneB] at hg
 rw [hasB_iff, hasB_iff] at he ⊢
 obtain ⟨⟨x, hx, ex⟩, ⟨y, hy, ey⟩⟩ := he
 refine ⟨⟨x, List.mem_filter.2 ⟨hx, ?_⟩, ex⟩, ⟨y, List.mem_filter.2 ⟨hy, ?_⟩, ey⟩⟩
 ·rw [ex]; simp [hg]
 ·rw [ey]; simp [hg]
def withoutT (t : GTopology) (f : GFailure) : GTopology := if chkT t = 0 then woT t f else GTopology.mk [] []
theorem ref_without (t : GTopology) (f : GFailure) : m_ref05_Without t f = some (withoutT t f) := by
 unfold m_ref05_Without withoutT
 simp only [ref_check, bnd_s]
 by_cases h : chkT t = 0
 ·have hv := vt_iff.1 h
  have := hv.nr; have := hv.nl
  simp only [h, decide_true, Bool.not_true, cond_false, if_true]
  refine (filt_loop (fun r : GRouter => !decide (r.ID ∈ f.Routers)) id _ _ _ ?_ (by simp; omega)).trans ?_
  ·intro j x Z s _ hs
   simp only [jn, has_int, bnd_s, app1 hs]; rfl
  refine (filt_loop (fun l : GLink => !goneB f l) id _ _ _ ?_ (by simp; omega)).trans ?_
  ·intro j x Z s _ hs
   simp only [jn, has_int, ref_named, bnd_s, app1 hs, goneB, id]
   cases decide (x.A ∈ f.Routers) <;> cases decide (x.B ∈ f.Routers) <;> cases hopB f.Links x.A x.B <;> cases hopB f.Links x.B x.A <;> rfl
  ·simp [woT]
 ·simp [h]
/-! ## has, capable, cost -/
theorem ref_Has (t : GTopology) (r : Int) : m_ref05_Has t r = some (decide (chkT t = 0) && hasB t r) := by
 unfold m_ref05_Has
 simp only [ref_check, ref_has, bnd_s]
 cases decide (chkT t = 0) <;> rfl
def findT (t : GTopology) (r : Int) : GRouter × Bool := if bsT (fun x : GRouter => cmpI x.ID r) t.Routers then (el t.Routers (bsR (fun x : GRouter => cmpI x.ID r) t.Routers), true) else (GRouter.mk 0 false, false)
theorem top_find (t : GTopology) (r : Int) (hl : t.Routers.length ≤ 1000000) : m_topology_find t r = some (findT t r) := by
 unfold m_topology_find findT
 rw [bsRt t.Routers r _ (fun x => cmpI x.ID r) hl (fun x => top_byID x r)]
 simp only [bnd_s]
 cases h : bsT (fun x : GRouter => cmpI x.ID r) t.Routers
 ·rfl
 ·have h2 : bsR (fun x : GRouter => cmpI x.ID r) t.Routers < t.Routers.length := by
   simp only [bsT, Bool.and_eq_true, decide_eq_true_eq] at h; exact h.1
  simp only [Bool.not_true, cond_false, elO_el h2, bnd_s, if_true]
theorem bsT_has {t : GTopology} (h : Vt t) (r : Int) : bsT (fun x : GRouter => cmpI x.ID r) t.Routers = hasB t r := by
 have := unkB_eq (t := t) (pairwise_adj (h.asc.imp fun h => by simpa using h)) r
 simpa [unkB] using this
theorem top_Has (t : GTopology) (r : Int) (hl : t.Routers.length ≤ 1000000) : m_topology_Has t r = some (decide (chkT t = 0) && hasB t r) := by
 unfold m_topology_Has
 simp only [top_find t r hl, top_valid, bnd_s]
 by_cases h : chkT t = 0
 ·simp only [h, decide_true, cond_true, Bool.true_and, findT, bsT_has (vt_iff.1 h)]
  cases hasB t r <;> rfl
 ·simp [h]
/-- the first that does -/
theorem find_loop {α σ β : Type} {B : Int → α → (σ → Option β) → σ → Option β} {K : σ → Option β} (p : α → Bool) (g : α → Option β) (hB : ∀ j x Z s, B j x Z s = bif p x then g x else Z s) (l : List α) (j : Nat) (s : σ) :
  forI l j B K s = match l.find? p with | some x => g x | none => K s :=
 forI_eq (f := fun l s => match l.find? p with | some x => g x | none => K s) (fun s => rfl) (fun j x r s Z hZ => by
  rw [hB, hZ, List.find?_cons]; cases p x <;> rfl) l j s
theorem uniq_l {t : GTopology} (h : Vt t) {a b : GLink} (ha : a ∈ t.Links) (hb : b ∈ t.Links) (hA : a.A = b.A) (hB : a.B = b.B) : a = b := by
 obtain ⟨i, hi, rfl⟩ := List.getElem_of_mem ha
 obtain ⟨j, hj, rfl⟩ := List.getElem_of_mem hb
 have := List.pairwise_iff_getElem.1 h.ascl
 rcases Nat.lt_trichotomy i j with q | q | q
 ·have := this i j hi hj q; simp [ltL] at this; omega
 ·subst q; rfl
 ·have := this j i hj hi q; simp [ltL] at this; omega
def eitherB (l : GLink) (a b : Int) : Bool := (decide (l.A = a) && decide (l.B = b)) || (decide (l.B = a) && decide (l.A = b))
def priceOf (a b : Int) (l : GLink) : Int × Bool := (bif decide (l.A = a) && decide (l.B = b) then l.CostA else l.CostB, true)
def priceT (t : GTopology) (a b : Int) : Int × Bool := match t.Links.find? (fun l => eitherB l a b) with | some l => priceOf a b l | none => (0, false)
def adjT (t : GTopology) (a b : Int) : Bool := t.Links.any fun l => eitherB l a b
theorem ref_price (t : GTopology) (a b : Int) : m_ref05_Price t a b = some (priceT t a b) := by
 unfold m_ref05_Price priceT
 refine (find_loop (fun l : GLink => eitherB l a b) (fun l => some (priceOf a b l)) (fun j x Z s => ?_) _ _ _).trans ?_
 ·unfold eitherB priceOf
  cases decide (x.A = a) && decide (x.B = b) <;> cases decide (x.B = a) && decide (x.A = b) <;> rfl
 ·cases t.Links.find? _ <;> rfl
theorem price_adj (t : GTopology) (a b : Int) : (priceT t a b).2 = adjT t a b := by
 unfold priceT adjT
 cases hf : t.Links.find? (fun l => eitherB l a b) with
 | none => symm; exact any_false.2 fun x hx => by simpa using List.find?_eq_none.1 hf x hx
 | some x =>
  symm
  exact List.any_eq_true.2 ⟨x, List.mem_of_find?_eq_some hf, by simpa using List.find?_some hf⟩
theorem ref_Cost (t : GTopology) (a b : Int) : m_ref05_Cost t a b = some (if chkT t = 0 then priceT t a b else (0, false)) := by
 unfold m_ref05_Cost
 simp only [ref_check, ref_price, bnd_s]
 by_cases h : chkT t = 0 <;> simp [h]
theorem price_eq {t : GTopology} (h : Vt t) {a b : Int} {l : GLink} (hm : l ∈ t.Links) (he : eitherB l a b = true) : priceT t a b = priceOf a b l := by
 unfold priceT
 cases hf : t.Links.find? (fun l => eitherB l a b) with
 | none => exact absurd he (List.find?_eq_none.1 hf l hm)
 | some x =>
  have hx := List.mem_of_find?_eq_some hf
  have hp := List.find?_some hf
  have h1 := h.lt _ hm
  have h2 := h.lt _ hx
  simp [eitherB] at he hp
  rw [uniq_l h hx hm (by omega) (by omega)]
theorem mono_ls {t : GTopology} (h : Vt t) (v : GLink) : ∀ a b : Nat, a ≤ b → b < t.Links.length → cmpL (el t.Links a) v ≤ cmpL (el t.Links b) v := by
 refine mono_of_pairwise (f := fun l : GLink => cmpL l v) (h.ascl.imp fun {a b} hab => ?_)
 have c3 : ∀ x y : Int, cmpI x y = -1 ∨ cmpI x y = 0 ∨ cmpI x y = 1 := fun x y => by
  unfold cmpI; split
  ·exact .inl rfl
  ·split
   ·exact .inr (.inr rfl)
   ·exact .inr (.inl rfl)
 have : ∀ x y : GLink, cmpL x y = -1 ∨ cmpL x y = 0 ∨ cmpL x y = 1 := fun x y => by
  have q1 := c3 x.A y.A
  have q2 := c3 x.B y.B
  simp only [cmpL, orI]
  generalize cmpI x.A y.A = p at *
  generalize cmpI x.B y.B = q at *
  by_cases h1 : p = 0
  ·by_cases h2 : q = 0 <;> simp [h1, h2]; omega
  ·simp [h1]; omega
 have h1 := @cmpL_lt a v
 have h2 := @cmpL_lt b v
 have h3 := @cmpL_eq a v
 have h4 := @cmpL_eq b v
 have q1 := this a v
 have q2 := this b v
 simp [ltL] at hab h1 h2
 omega
theorem top_Cost (t : GTopology) (a b : Int) (hl : t.Links.length ≤ 1000000) : m_topology_Cost t a b = some (if chkT t = 0 then priceT t a b else (0, false)) := by
 unfold m_topology_Cost
 simp only [top_valid, bnd_s]
 by_cases h : chkT t = 0
 ·have hv := vt_iff.1 h
  simp only [h, decide_true, Bool.not_true, cond_false, if_true]
  generalize hv2 : GLink.mk (if b < a then b else a) (if b > a then b else a) 0 0 0 = v
  rw [bsLk t.Links v _ (fun x => cmpL x v) hl (fun x => top_compare x v)]
  simp only [bnd_s]
  have hA : v.A = if b < a then b else a := by rw [← hv2]
  have hB : v.B = if b > a then b else a := by rw [← hv2]
  cases hT : bsT (fun x : GLink => cmpL x v) t.Links
  ·simp only [Bool.not_false, cond_true]
   congr 1
   unfold priceT
   cases hf : t.Links.find? (fun l => eitherB l a b) with
   | none => rfl
   | some x =>
    exfalso
    have hx := List.mem_of_find?_eq_some hf
    have hp := List.find?_some hf
    have h2 := h
    have := (bsT_iff (f := fun x : GLink => cmpL x v) (mono_ls hv v)).2 ⟨x, hx, by
     rw [cmpL_eq, hA, hB]
     have := hv.lt _ hx
     simp [eitherB] at hp
     split <;> split <;> omega⟩
    rw [hT] at this; cases this
  ·simp only [bsT, Bool.and_eq_true, decide_eq_true_eq] at hT
   obtain ⟨q1, q2⟩ := hT
   rw [cmpL_eq, hA, hB] at q2
   have hm := el_mem q1
   simp only [Bool.not_true, cond_false, elO_el q1, bnd_s]
   have hlt := hv.lt _ hm
   have e : eitherB (el t.Links (bsR (fun x : GLink => cmpL x v) t.Links)) a b = true := by
    simp [eitherB]; by_cases q3 : b < a <;> by_cases q4 : b > a <;> simp only [q3, q4, if_true, if_false] at q2 <;> omega
   rw [price_eq hv hm e]
   unfold priceOf
   by_cases hab : a < b
   ·have : decide (a < b) = true := by simpa using hab
    rw [this, cond_true]
    have : (decide ((el t.Links (bsR (fun x : GLink => cmpL x v) t.Links)).A = a) && decide ((el t.Links (bsR (fun x : GLink => cmpL x v) t.Links)).B = b)) = true := by
     simp; by_cases q3 : b < a <;> by_cases q4 : b > a <;> simp only [q3, q4, if_true, if_false] at q2 <;> omega
    rw [this]; rfl
   ·have : decide (a < b) = false := by simpa using hab
    rw [this, cond_false]
    have : (decide ((el t.Links (bsR (fun x : GLink => cmpL x v) t.Links)).A = a) && decide ((el t.Links (bsR (fun x : GLink => cmpL x v) t.Links)).B = b)) = false := by
     simp; by_cases q3 : b < a <;> by_cases q4 : b > a <;> simp only [q3, q4, if_true, if_false] at q2 <;> omega
    rw [this]; rfl
 ·simp [h]
/-! ## neighbours -/
def ids (t : GTopology) : List Int := t.Routers.map (·.ID)
theorem ids_lt {t : GTopology} (h : Vt t) : (ids t).Pairwise (· < ·) := List.pairwise_map.2 h.asc
theorem ids_has {t : GTopology} {r : Int} : r ∈ ids t ↔ hasB t r = true := by rw [hasB_iff]; simp [ids]
theorem adj_iff {t : GTopology} {a b : Int} : adjT t a b = true ↔ ∃ l ∈ t.Links, (l.A = a ∧ l.B = b) ∨ (l.B = a ∧ l.A = b) := by
 simp [adjT, eitherB]
theorem adj_symm {t : GTopology} {a b : Int} (h : adjT t a b = true) : adjT t b a = true := by
 rw [adj_iff] at h ⊢
 obtain ⟨l, hl, h⟩ := h
 exact ⟨l, hl, by omega⟩
theorem adj_ids {t : GTopology} (hv : Vt t) {a b : Int} (h : adjT t a b = true) : b ∈ ids t := by
 rw [adj_iff] at h
 obtain ⟨l, hl, h⟩ := h
 have := hv.ends l hl
 rcases h with ⟨h1, h2⟩ | ⟨h1, h2⟩ <;> rw [ids_has, ← h2]
 ·exact this.2
 ·exact this.1
def nearL (t : GTopology) (r : Int) : List Int := (ids t).filter fun x => adjT t r x
theorem nearL_lt {t : GTopology} (hv : Vt t) (r : Int) : (nearL t r).Pairwise (· < ·) := (ids_lt hv).sublist List.filter_sublist
theorem nearL_mem {t : GTopology} (hv : Vt t) {r x : Int} : x ∈ nearL t r ↔ adjT t r x = true := by
 unfold nearL; rw [List.mem_filter]
 exact ⟨fun h => h.2, fun h => ⟨adj_ids hv h, h⟩⟩
theorem ref_near {t : GTopology} (hv : Vt t) (r : Int) : m_ref05_Near t r = some (nearL t r) := by
 unfold m_ref05_Near
 have := hv.nr
 refine (filt_loop (fun x : GRouter => adjT t r x.ID) (·.ID) _ _ _ ?_ (by simp; omega)).trans ?_
 ·intro j x Z s _ hs
  simp only [jn, ref_price, price_adj, bnd_s, app1 hs]
 ·simp only [List.nil_append, nearL, ids]
  rw [List.filter_map]; rfl
/-- the other end of each link of a router -/
def otherE (r : Int) (l : GLink) : Option Int := if r = l.A then some l.B else if r = l.B then some l.A else none
theorem fmap_loop {α γ β : Type} {B : Int → α → (List γ → Option β) → List γ → Option β} {K : List γ → Option β} (f : α → Option γ) :
  ∀ (l : List α) (j : Nat) (s : List γ), (∀ (j : Nat) x Z s, x ∈ l → s.length < 1000000 → B j x Z s = match f x with | some y => Z (s ++ [y]) | none => Z s) → l.length + s.length ≤ 1000000 → forI l j B K s = K (s ++ l.filterMap f)
 | [], j, s, _, _ => by simp [forI]
 | x :: r, j, s, hB, h => by
  simp only [List.length_cons] at h
  simp only [forI]
  rw [hB j x _ s (by simp) (by omega)]
  have hB' : ∀ (j : Nat) y Z s, y ∈ r → s.length < 1000000 → B j y Z s = match f y with | some y => Z (s ++ [y]) | none => Z s := fun j y Z s hy => hB j y Z s (by simp [hy])
  cases hp : f x with
  | none => simp only; rw [fmap_loop f r (j + 1) s hB' (by omega), List.filterMap_cons_none hp]
  | some y => simp only; rw [fmap_loop f r (j + 1) (s ++ [y]) hB' (by simp; omega), List.filterMap_cons_some hp]; simp
theorem other_nodup {t : GTopology} (hv : Vt t) (r : Int) : (t.Links.filterMap (otherE r)).Nodup := by
 have key : ∀ l : List GLink, (∀ x ∈ l, x.A < x.B) → l.Pairwise (fun a b => ltL a b = true) → (l.filterMap (otherE r)).Nodup := by
  intro l
  induction l with
  | nil => intros; simp
  | cons x l ih =>
   intro h1 h2
   rw [List.pairwise_cons] at h2
   have ih := ih (fun y hy => h1 y (by simp [hy])) h2.2
   cases hx : otherE r x with
   | none => rw [List.filterMap_cons_none hx]; exact ih
   | some y =>
    rw [List.filterMap_cons_some hx, List.nodup_cons]
    refine ⟨fun hm => ?_, ih⟩
    obtain ⟨z, hz, hzy⟩ := List.mem_filterMap.1 hm
    have h3 := h2.1 z hz
    have h4 := h1 x (by simp)
    have h5 := h1 z (by simp [hz])
    unfold otherE at hx hzy
    simp [ltL] at h3
    split at hx <;> split at hzy <;> (try split at hx) <;> (try split at hzy) <;> simp at hx hzy <;> omega
 exact key _ hv.lt hv.ascl
end Go.Proofs.Ytflifgcoleknlaa

/- Plain: who is connected with whom. No condition. -/
namespace Go.Proofs.Ytflifgcoleknlaa
set_option linter.all false
open Go
/-- a loop, with what was passed -/
theorem Ok.forL {α σ β : Type} {B : Int → α → (σ → Option β) → σ → Option β} {K : σ → Option β} {Q : β → Prop} (I : List α → σ → Prop) {L : List α}
  (hc : ∀ (p : List α) x r s Z, L = p ++ x :: r → I p s → (∀ s', I (p ++ [x]) s' → Ok (Z s') Q) → Ok (B (p.length : Int) x Z s) Q) (s : σ) (h : I [] s) (hn : ∀ s, I L s → Ok (K s) Q) : Ok (Go.Proofs.Ytflifgcoleknlaa.forI L 0 B K s) Q := by
 have key : ∀ (l p : List α) (s : σ), L = p ++ l → I p s → Ok (Go.Proofs.Ytflifgcoleknlaa.forI l p.length B K s) Q := by
  intro l
  induction l with
  | nil => intro p s hj h; exact hn s (by rw [hj, List.append_nil]; exact h)
  | cons x r ih =>
   intro p s hj h
   refine hc p x r s _ hj h fun s' h' => ?_
   have := ih (p ++ [x]) s' (by simp [hj]) h'
   rwa [List.length_append] at this
 exact key L [] s rfl h
theorem nodup_len {a b : List Int} (h : a.Nodup) (hs : ∀ x ∈ a, x ∈ b) : a.length ≤ b.length := by
 induction a generalizing b with
 | nil => simp
 | cons x a ih =>
  rw [List.nodup_cons] at h
  have hx := hs x (by simp)
  have := ih (b := b.erase x) h.2 fun y hy => (List.mem_erase_of_ne (fun e => h.1 (by rw [← e]; exact hy))).2 (hs y (by simp [hy]))
  rw [List.length_erase_of_mem hx] at this
  have := List.length_pos_of_mem hx
  simp only [List.length_cons]; omega
inductive Cn (t : GTopology) (c : List Int) : Int → Int → Prop
 | refl {a : Int} (h : a ∉ c) : Cn t c a a
 | step {a b d : Int} (h : Cn t c a b) (ha : adjT t b d = true) (hd : d ∉ c) : Cn t c a d
theorem Cn.trans {t : GTopology} {c : List Int} {a b d : Int} (h1 : Cn t c a b) (h2 : Cn t c b d) : Cn t c a d := by
 induction h2 with
 | refl _ => exact h1
 | step _ ha hd ih => exact .step ih ha hd
theorem Cn.left {t : GTopology} {c : List Int} {a b : Int} (h : Cn t c a b) : a ∉ c := by
 induction h with
 | refl h => exact h
 | step _ _ _ ih => exact ih
theorem Cn.right {t : GTopology} {c : List Int} {a b : Int} (h : Cn t c a b) : b ∉ c := by
 cases h with
 | refl h => exact h
 | step _ _ hd => exact hd
theorem Cn.symm {t : GTopology} {c : List Int} {a b : Int} (h : Cn t c a b) : Cn t c b a := by
 induction h with
 | refl h => exact .refl h
 | step h ha hd ih => exact (Cn.step (.refl hd) (adj_symm ha) h.right).trans ih
theorem Cn.ids {t : GTopology} (hv : Vt t) {c : List Int} {a b : Int} (h : Cn t c a b) (ha : a ∈ ids t) : b ∈ ids t := by
 cases h with
 | refl h => exact ha
 | step _ hd _ => exact adj_ids hv hd
theorem Cn.stays {t : GTopology} {c : List Int} {S : Int → Prop} {a b : Int} (h : Cn t c a b) (ha : S a) (hs : ∀ x, S x → ∀ y, adjT t x y = true → S y ∨ y ∈ c) : S b := by
 induction h with
 | refl _ => exact ha
 | step _ hd hc ih => exact (hs _ ih _ hd).resolve_right hc
open Classical in
noncomputable def compL (t : GTopology) (c : List Int) (r : Int) : List Int := (ids t).filter fun x => decide (Cn t c r x)
theorem compL_mem {t : GTopology} (hv : Vt t) {c : List Int} {r x : Int} (hr : r ∈ ids t) : x ∈ compL t c r ↔ Cn t c r x := by
 unfold compL
 rw [List.mem_filter]
 simp only [decide_eq_true_eq]
 exact ⟨fun h => h.2, fun h => ⟨h.ids hv hr, h⟩⟩
theorem compL_lt {t : GTopology} (hv : Vt t) (c : List Int) (r : Int) : (compL t c r).Pairwise (· < ·) := (ids_lt hv).sublist List.filter_sublist
theorem ids_len {t : GTopology} (hv : Vt t) : (ids t).length ≤ 24 := by have := hv.nr; simpa [ids] using this
theorem ins_ok {l : List Int} {n : Int} (hl : l.Pairwise (· < ·)) (hlen : l.length ≤ 1000000) : Ok (m_ref04_Insert l n) (fun m => m.Pairwise (· < ·) ∧ ∀ x, x ∈ m ↔ x = n ∨ x ∈ l) := by
 unfold m_ref04_Insert
 refine Ok.whl (fun a : Int => (0 ≤ a ∧ a ≤ l.length) ∧ ∀ x ∈ l.take a.toNat, x < n) (fun a => ((l.length : Int) - a).toNat) ⟨⟨by omega, by omega⟩, by simp⟩ (by omega) ?_
 rintro a Z ⟨⟨h0, h1⟩, hlt⟩ hZ
 have split : l.take a.toNat ++ l.drop a.toNat = l := List.take_append_drop _ _
 refine Ok.jn (fun v : Bool => (v = true → a < l.length ∧ ∀ x ∈ l.take (a + 1).toNat, x < n) ∧ (v = false → ∀ x ∈ l.drop a.toNat, n ≤ x)) (fun v hv => ?_) fun J hJ => ?_
 ·refine Ok.cs (fun h => ?_) fun h => ?_
  ·obtain ⟨q1, q2⟩ := hv.1 h
   rw [w64_id (by omega) (by omega)]
   exact hZ _ ⟨⟨by omega, by omega⟩, q2⟩ (by omega)
  ·have hge := hv.2 h
   refine Ok.jn (fun v : Bool => (v = true → n ∈ l) ∧ (v = false → ∀ x ∈ l.drop a.toNat, n < x)) (fun v hv => ?_) fun J2 hJ2 => ?_
   ·refine Ok.cs (fun h => Ok.s ⟨hl, fun x => ⟨.inr, ?_⟩⟩) fun h => ?_
    ·rintro (rfl | hx)
     ·exact hv.1 h
     ·exact hx
    ·have hgt := hv.2 h
     refine Ok.bnd (sli_ok ⟨by omega, by omega, by omega⟩) fun l1 e1 => ?_
     refine Ok.bnd (app_ok (by simp; omega)) fun l2 e2 => ?_
     refine Ok.bnd (app_ok (by simp at e2 ⊢; omega)) fun l3 e3 => ?_
     refine Ok.bnd (sli_ok ⟨by omega, by omega, by omega⟩) fun l4 e4 => ?_
     refine Ok.bnd (app_ok (by simp at e2 e3 ⊢; omega)) fun l5 e5 => ?_
     have f : l5 = l.take a.toNat ++ n :: l.drop a.toNat := by
      rw [e5.1, e4.1, e3.1, e2.1, e1.1]; simp
     refine Ok.s ?_
     rw [f]
     have hl' := hl
     rw [← split, List.pairwise_append] at hl'
     obtain ⟨p1, p2, p3⟩ := hl'
     refine ⟨?_, fun x => ?_⟩
     ·rw [List.pairwise_append, List.pairwise_cons]
      refine ⟨p1, ⟨fun y hy => hgt y hy, p2⟩, fun x hx y hy => ?_⟩
      rcases List.mem_cons.1 hy with rfl | hy
      ·exact hlt x hx
      ·exact p3 x hx y hy
     ·have : x ∈ l ↔ x ∈ l.take a.toNat ∨ x ∈ l.drop a.toNat := by rw [← List.mem_append, split]
      rw [this]; simp only [List.mem_append, List.mem_cons]
      constructor
      ·rintro (h | h | h) <;> simp [h]
      ·rintro (h | h | h) <;> simp [h]
   ·refine Ok.cs (fun hc => ?_) fun hc => hJ2 _ ⟨by simp, fun _ x hx => ?_⟩
    ·have hc : a < l.length := by simpa using hc
     refine Ok.bnd (elO_ok h0 hc) fun e he => hJ2 _ ⟨fun h => ?_, fun h x hx => ?_⟩
     ·have : e = n := by simpa using h
      rw [← this]; exact he.1
     ·have hne : e ≠ n := by simpa using h
      have hd : l.drop a.toNat = e :: l.drop (a.toNat + 1) := by
       have hi : a.toNat < l.length := by omega
       rw [List.drop_eq_getElem_cons hi]
       have := he.2
       rw [List.getElem?_eq_getElem hi] at this
       injection this with this
       rw [this]
      have hen := hge e (by rw [hd]; simp)
      rw [hd] at hx
      rcases List.mem_cons.1 hx with rfl | hx
      ·omega
      ·have hp : (l.drop a.toNat).Pairwise (· < ·) := hl.sublist (List.drop_sublist _ _)
       rw [hd, List.pairwise_cons] at hp
       have := hp.1 x hx; omega
    ·have hc : (l.length : Int) ≤ a := by simpa using hc
     rw [List.drop_eq_nil_of_le (by omega)] at hx
     simp at hx
 ·refine Ok.cs (fun hc => ?_) fun hc => hJ _ ⟨by simp, fun _ x hx => ?_⟩
  ·have hc : a < l.length := by simpa using hc
   have hi : a.toNat < l.length := by omega
   refine Ok.bnd (elO_ok h0 hc) fun e he => ?_
   have hev := he.2
   rw [List.getElem?_eq_getElem hi] at hev
   injection hev with hev
   have hd : l.drop a.toNat = e :: l.drop (a.toNat + 1) := by rw [List.drop_eq_getElem_cons hi, hev]
   refine hJ _ ⟨fun h => ⟨hc, fun x hx => ?_⟩, fun h x hx => ?_⟩
   ·have hen : e < n := by simpa using h
    rw [show (a + 1).toNat = a.toNat + 1 by omega, List.take_succ_eq_append_getElem hi, hev] at hx
    rcases List.mem_append.1 hx with hx | hx
    ·exact hlt x hx
    ·simp at hx; omega
   ·have hen : n ≤ e := by simpa using h
    rw [hd] at hx
    rcases List.mem_cons.1 hx with rfl | hx
    ·exact hen
    ·have hp : (l.drop a.toNat).Pairwise (· < ·) := hl.sublist (List.drop_sublist _ _)
     rw [hd, List.pairwise_cons] at hp
     have := hp.1 x hx; omega
  ·have hc : (l.length : Int) ≤ a := by simpa using hc
   rw [List.drop_eq_nil_of_le (by omega)] at hx
   simp at hx
theorem ref_around {t : GTopology} (hv : Vt t) {r : Int} (hr : r ∈ ids t) : m_ref05_Around t r = some (compL t [] r) := by
 refine Ok.eq ?_
 have hil := ids_len hv
 unfold m_ref05_Around
 refine Ok.whl (fun s : List Int × Int => (0 ≤ s.2 ∧ s.2 ≤ s.1.length) ∧ s.1.Nodup ∧ (∀ x ∈ s.1, Cn t [] r x) ∧ r ∈ s.1 ∧ (∀ x ∈ s.1.take s.2.toNat, ∀ y, adjT t x y = true → y ∈ s.1))
  (fun s => ((25 : Int) - s.2).toNat) ⟨⟨by simp, by simp⟩, by simp, by intro x hx; simp at hx; subst hx; exact .refl (by simp), by simp, by simp⟩ (by simp only; omega) ?_
 rintro ⟨out, i⟩ Z ⟨⟨h0, h1⟩, hnd, hcn, hro, had⟩ hZ
 simp only at h0 h1 hnd hcn hro had
 have hsub : ∀ {l : List Int}, (∀ x ∈ l, Cn t [] r x) → l.Nodup → l.length ≤ 24 := fun {l} h hn => Nat.le_trans (nodup_len hn fun x hx => (h x hx).ids hv hr) hil
 have hol := hsub hcn hnd
 refine Ok.cs (fun hc => ?_) fun hc => ?_
 ·have hc : i < out.length := by simpa using hc
  have hi : i.toNat < out.length := by omega
  refine Ok.bnd (elO_ok h0 hc) fun e he => ?_
  have hev := he.2
  rw [List.getElem?_eq_getElem hi] at hev
  injection hev with hev
  rw [ref_near hv, bnd_s]
  refine Ok.forL (fun p o => (∃ new, o = out ++ new) ∧ o.Nodup ∧ (∀ x ∈ o, Cn t [] r x) ∧ ∀ y ∈ p, y ∈ o) ?_ _ ⟨⟨[], by simp⟩, hnd, hcn, by simp⟩ ?_
  ·rintro p x rest o Z2 hL ⟨⟨new, ho⟩, hond, hocn, hp⟩ hZ2
   have hadj : adjT t e x = true := (nearL_mem hv).1 (by rw [hL]; simp)
   have hcx : Cn t [] r x := .step (hcn e he.1) hadj (by simp)
   have hlo := hsub hocn hond
   simp only [jn, has_int, bnd_s]
   by_cases hx : x ∈ o
   ·simp only [hx, decide_true, Bool.not_true, cond_false]
    refine hZ2 _ ⟨⟨new, ho⟩, hond, hocn, fun y hy => ?_⟩
    rcases List.mem_append.1 hy with hy | hy
    ·exact hp y hy
    ·simp at hy; subst hy; exact hx
   ·simp only [hx, decide_false, Bool.not_false, cond_true]
    rw [appO_ok (by simp; omega), bnd_s]
    refine hZ2 _ ⟨⟨new ++ [x], by rw [ho]; simp⟩, ?_, fun y hy => ?_, fun y hy => ?_⟩
    ·rw [List.nodup_append]
     refine ⟨hond, by simp, fun a ha b hb => ?_⟩
     simp at hb; subst hb; exact fun e => hx (e ▸ ha)
    ·rcases List.mem_append.1 hy with hy | hy
     ·exact hocn y hy
     ·simp at hy; subst hy; exact hcx
    ·rcases List.mem_append.1 hy with hy | hy
     ·exact List.mem_append_left _ (hp y hy)
     ·exact List.mem_append_right _ hy
  ·rintro o ⟨⟨new, ho⟩, hond, hocn, hp⟩
   have hlo := hsub hocn hond
   rw [w64_id (by omega) (by omega)]
   refine hZ _ ⟨⟨by simp only; omega, by simp only [ho, List.length_append]; omega⟩, hond, hocn, by rw [ho]; simp [hro], ?_⟩ (by simp only; omega)
   intro x hx y hy
   simp only at hx ⊢
   rw [show (i + 1).toNat = i.toNat + 1 by omega, ho, List.take_append_of_le_length (by omega), List.take_succ_eq_append_getElem hi, hev] at hx
   rcases List.mem_append.1 hx with hx | hx
   ·rw [ho]; exact List.mem_append_left _ (had x hx y hy)
   ·simp at hx; subst hx
    exact hp y ((nearL_mem hv).2 hy)
 ·have hc : (out.length : Int) ≤ i := by simpa using hc
  rw [List.take_of_length_le (by omega)] at had
  refine Ok.forL (fun p m => m.Pairwise (· < ·) ∧ ∀ x, x ∈ m ↔ x ∈ p) ?_ _ ⟨by simp, by simp⟩ ?_
  ·rintro p x rest m Z2 hL ⟨hm1, hm2⟩ hZ2
   have hnm : m.Nodup := hm1.imp (fun h => by omega)
   have : m.length ≤ 24 := hsub (fun y hy => hcn y (by rw [hL]; exact List.mem_append_left _ ((hm2 y).1 hy))) hnm
   refine Ok.bnd (ins_ok hm1 (by omega)) fun m2 ⟨q1, q2⟩ => hZ2 _ ⟨q1, fun y => ?_⟩
   rw [q2, hm2]; simp [or_comm]
  ·rintro m ⟨hm1, hm2⟩
   refine Ok.s (lt_unique hm1 (compL_lt hv [] r) fun x => ?_)
   rw [hm2, compL_mem hv hr]
   exact ⟨hcn x, fun h => h.stays (S := fun x => x ∈ out) hro fun x hx y hy => .inl (had x hx y hy)⟩
end Go.Proofs.Ytflifgcoleknlaa

/- Plain: components, bridges and cuts. No condition. -/
namespace Go.Proofs.Ytflifgcoleknlaa
set_option linter.all false
open Go
/-! ## connected -/
open Classical in
noncomputable def conB (t : GTopology) (a b : Int) : Bool := decide (chkT t = 0) && hasB t a && hasB t b && decide (Cn t [] a b)
theorem mem_comp {t : GTopology} (hv : Vt t) {c : List Int} {a b : Int} (ha : a ∈ ids t) : decide (b ∈ compL t c a) = @decide (Cn t c a b) (Classical.propDecidable _) := by
 rw [Bool.eq_iff_iff]; simp [compL_mem hv ha]
theorem ref_Connected (t : GTopology) (a b : Int) : m_ref05_Connected t a b = some (conB t a b) := by
 unfold m_ref05_Connected conB
 simp only [ref_Has, bnd_s]
 by_cases h : chkT t = 0
 ·have hv := vt_iff.1 h
  simp only [h, decide_true, Bool.true_and]
  cases ha : hasB t a
  ·rfl
  ·cases hb : hasB t b
   ·rfl
   ·simp only [cond_true, ref_around hv (ids_has.2 ha), bnd_s, has_int, mem_comp hv (ids_has.2 ha), Bool.true_and]
 ·simp [h]
/-! ## components -/
theorem getI_set {α : Type} (l : List (Int × α)) (n m : Int) (b : α) : getI (setI l n b) m = if m = n then some b else getI l m := by
 induction l with
 | nil =>
  simp only [setI, getI, List.find?]
  by_cases h : n = m
  ·simp [h]
  ·simp [h, Ne.symm h]
 | cons p r ih =>
  simp only [setI]
  by_cases h1 : p.1 = n
  ·rw [if_pos h1]
   simp only [getI, List.find?] at ih ⊢
   by_cases h2 : n = m
   ·simp [h2]
   ·have : p.1 ≠ m := by omega
    simp [h2, this, Ne.symm h2]
  ·rw [if_neg h1]
   simp only [getI, List.find?] at ih ⊢
   by_cases h2 : p.1 = m
   ·have : m ≠ n := by omega
    simp [h2, this]
   ·simp [h2]; exact ih
theorem setI_len {α : Type} {l : List (Int × α)} {n : Int} {b : α} (h : getI l n = none) : (setI l n b).length = l.length + 1 := by
 induction l with
 | nil => rfl
 | cons p r ih =>
  simp only [getI, List.find?] at h
  by_cases h1 : p.1 = n
  ·simp [h1] at h
  ·simp only [setI, if_neg h1, List.length_cons]
   rw [ih (by simpa [getI, h1] using h)]
/-! ## bridges -/
def woR (t : GTopology) (r : Int) : GTopology := woT t (GFailure.mk [] [r])
theorem woR_ids {t : GTopology} {r x : Int} : x ∈ ids (woR t r) ↔ x ∈ ids t ∧ x ≠ r := by
 simp only [ids, woR, woT, List.mem_map, List.mem_filter, List.mem_cons, List.not_mem_nil, or_false]
 constructor
 ·rintro ⟨y, ⟨hy, hn⟩, rfl⟩; exact ⟨⟨y, hy, rfl⟩, by simpa using hn⟩
 ·rintro ⟨⟨y, hy, rfl⟩, hn⟩; exact ⟨y, ⟨hy, by simpa using hn⟩, rfl⟩
/-! ## cuts -/
theorem woR_adj {t : GTopology} {r a b : Int} : adjT (woR t r) a b = true ↔ adjT t a b = true ∧ a ≠ r ∧ b ≠ r := by
 rw [adj_iff, adj_iff]
 simp only [woR, woT, List.mem_filter, goneB, hopB, List.any_nil, Bool.or_false, List.mem_cons, List.not_mem_nil, or_false]
 constructor
 ·rintro ⟨l, ⟨hl, hg⟩, h⟩
  simp at hg
  exact ⟨⟨l, hl, h⟩, by omega, by omega⟩
 ·rintro ⟨⟨l, hl, h⟩, h1, h2⟩
  refine ⟨l, ⟨hl, ?_⟩, h⟩
  simp; omega
end Go.Proofs.Ytflifgcoleknlaa
