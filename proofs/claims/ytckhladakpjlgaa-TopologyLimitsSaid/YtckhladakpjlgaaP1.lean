/- Plain: the two Checks of a topology come to the same. No condition. -/
import Derived.Test.YtckhladakpjlgaaP0
import Derived.Test.YtckhladakpjlgaaD1
import Derived.Test.YtckhladakpjlgaaD4
namespace Go.Proofs.Ytckhladakpjlgaa
set_option linter.all false
open Go

def costB (n : Int) : Bool := decide (1 ≤ n) && decide (n ≤ 1000)
def hasB (t : GTopology) (r : Int) : Bool := t.Routers.any fun x => decide (x.ID = r)
def badR (r : GRouter) : Bool := decide (r.ID < 1) || decide (99 < r.ID)
def badL (l : GLink) : Bool := !costB l.CostA || !costB l.CostB || decide (l.Capacity < 0) || decide (1000 < l.Capacity)
def ltL (a b : GLink) : Bool := decide (a.A < b.A) || (decide (a.A = b.A) && decide (a.B < b.B))
def adjB {α : Type} (p : α → α → Bool) : List α → Bool
  | a :: b :: r => p a b && adjB p (b :: r)
  | _ => true
def kA (t : GTopology) : Bool := t.Routers.any badR
def kB (t : GTopology) : Bool := adjB (fun a b => decide (a.ID < b.ID)) t.Routers
def kC (t : GTopology) : Bool := t.Links.any badL
def kD (t : GTopology) : Bool := t.Links.any fun l => !hasB t l.A || !hasB t l.B
def kE (t : GTopology) : Bool := t.Links.any fun l => decide (l.B ≤ l.A)
def kF (t : GTopology) : Bool := adjB ltL t.Links
def chkT (t : GTopology) : Int :=
  bif decide (24 < (t.Routers.length : Int)) || decide (60 < (t.Links.length : Int)) then 3
  else bif kA t then 2 else bif kB t then (bif kC t then 2 else bif kD t then 4 else bif kE t then 8 else bif kF t then 0 else 25) else 25

/-- a loop that looks at neighbours, behind the first -/
theorem adj_loop {α σ β : Type} {B : Int → α → (σ → Option β) → σ → Option β} {K : σ → Option β} {L : List α} (p : α → α → Bool) (a : Option β)
    (hB : ∀ (j : Nat) x y r q s Z, L = q ++ y :: x :: r → j = q.length + 1 → B (j : Int) x Z s = bif p y x then Z s else a) : ∀ (r q : List α) (y : α) (s : σ), L = q ++ y :: r → forI r (q.length + 1) B K s = bif adjB p (y :: r) then K s else a
  | [], q, y, s, h => rfl
  | x :: r, q, y, s, h => by
    simp only [forI]
    rw [hB (q.length + 1) x y r q s _ h rfl]
    have := adj_loop (B := B) (K := K) p a hB r (q ++ [y]) x s (by simpa using h)
    simp only [List.length_append, List.length_cons, List.length_nil] at this
    rw [this]
    simp only [adjB]
    cases p y x <;> rfl
theorem adj_loop1 {α σ β : Type} {B : Int → α → (σ → Option β) → σ → Option β} {K : σ → Option β} {L : List α} (p : α → α → Bool) (a : Option β)
    (hB : ∀ (j : Nat) x y r q s Z, L = q ++ y :: x :: r → j = q.length + 1 → B (j : Int) x Z s = bif p y x then Z s else a) (s : σ) : forI (L.drop 1) 1 B K s = bif adjB p L then K s else a := by
  cases L with
  | nil => rfl
  | cons y r => exact adj_loop (B := B) (K := K) p a hB r [] y s rfl
theorem adj_loop0 {α σ β : Type} {B : Int → α → (σ → Option β) → σ → Option β} {K : σ → Option β} {L : List α} (p : α → α → Bool) (a : Option β) (h0 : ∀ x Z s, B ((0 : Nat) : Int) x Z s = Z s)
    (hB : ∀ (j : Nat) x y r q s Z, L = q ++ y :: x :: r → j = q.length + 1 → B (j : Int) x Z s = bif p y x then Z s else a) (s : σ) : forI L 0 B K s = bif adjB p L then K s else a := by
  cases L with
  | nil => rfl
  | cons y r =>
    simp only [forI]
    rw [h0]
    exact adj_loop (B := B) (K := K) p a hB r [] y s rfl
/-- the place ahead -/
theorem elO_prev {α : Type} {L : List α} {j : Nat} {y x : α} {r q : List α} (h : L = q ++ y :: x :: r) (hj : j = q.length + 1) (hL : (L.length : Int) ≤ 9223372036854775807) : elO L (w64 ((j : Int) - 1)) = some y := by
  have hl : q.length + 2 ≤ L.length := by rw [h]; simp
  rw [w64_id (by omega) (by omega), show (j : Int) - 1 = (q.length : Int) by omega, h, elO_at]

theorem ref_cost (n : Int) : m_ref05_cost n = some (costB n) := rfl
theorem ref_has (t : GTopology) (r : Int) : m_ref05_has t r = some (hasB t r) := by
  unfold m_ref05_has
  refine (any_loop (fun x : GRouter => decide (x.ID = r)) (some true) ?_ _ _ _).trans ?_
  · intros; rfl
  · unfold hasB; cases t.Routers.any _ <;> rfl
theorem ref_check (t : GTopology) : m_ref05_Check t = some (chkT t) := by
  unfold m_ref05_Check chkT
  by_cases hlen : (decide (24 < (t.Routers.length : Int)) || decide (60 < (t.Links.length : Int))) = true
  · rw [hlen]; rfl
  rw [Bool.not_eq_true] at hlen
  rw [hlen]
  simp only [cond_false]
  simp only [Bool.or_eq_false_iff, decide_eq_false_iff_not] at hlen
  refine (any_loop badR (some 2) ?_ _ _ _).trans ?_
  · intros; rfl
  unfold kA
  cases t.Routers.any badR
  case true => rfl
  simp only [cond_false]
  refine (adj_loop1 (fun a b : GRouter => decide (a.ID < b.ID)) (some 25) ?_ _).trans ?_
  · intro j x y r q s Z h hj
    simp only [elO_prev h hj (by omega), bnd_s, cond_d]
    split <;> split <;> first | rfl | omega
  unfold kB
  cases adjB _ t.Routers
  case false => rfl
  simp only [cond_true]
  refine (any_loop badL (some 2) ?_ _ _ _).trans ?_
  · intro j x Z s
    simp only [jn, ref_cost, bnd_s, badL]
    cases costB x.CostA <;> cases costB x.CostB <;> simp [cond_d] <;> (try split) <;> (try split) <;> simp_all <;> omega
  unfold kC
  cases t.Links.any badL
  case true => rfl
  simp only [cond_false]
  refine (any_loop (fun l => !hasB t l.A || !hasB t l.B) (some 4) ?_ _ _ _).trans ?_
  · intro j x Z s
    simp only [jn, ref_has, bnd_s]
    cases hasB t x.A <;> cases hasB t x.B <;> rfl
  unfold kD
  cases t.Links.any _
  case true => rfl
  simp only [cond_false]
  refine (any_loop (fun l => decide (l.B ≤ l.A)) (some 8) ?_ _ _ _).trans ?_
  · intros; rfl
  unfold kE
  cases t.Links.any _
  case true => rfl
  simp only [cond_false]
  refine (adj_loop1 ltL (some 25) ?_ _).trans ?_
  · intro j x y r q s Z h hj
    have e : (decide (x.A < y.A) || (decide (y.A = x.A) && decide (x.B ≤ y.B))) = !ltL y x := by
      rw [Bool.eq_iff_iff]; simp [ltL]; omega
    simp only [elO_prev h hj (by omega), bnd_s]
    rw [e]
    cases ltL y x <;> rfl
  unfold kF
  cases adjB ltL t.Links <;> rfl

/-! ## the program's -/
theorem idx_loop {α σ : Type} {B : Int → α → (σ → Option Int) → σ → Option Int} {K : σ → Option Int} (p : α → Bool) (hB : ∀ j x Z s, B j x Z s = bif p x then some j else Z s) (hK : ∀ s, K s = some (-1)) : ∀ (l : List α) (j : Nat) (s : σ), ∃ r, forI l j B K s = some r ∧ decide (0 ≤ r) = l.any p
  | [], j, s => ⟨-1, hK s, rfl⟩
  | x :: r, j, s => by
    simp only [forI, hB, List.any_cons]
    cases p x
    · simpa using idx_loop p hB hK r (j + 1) s
    · exact ⟨j, rfl, by simp⟩
theorem cfR (l : List GRouter) (f : GRouter → Option Bool) (p : GRouter → Bool) (hf : ∀ x, f x = some (p x)) : m_slices_ContainsFunc_Lapi_Router_api_Router l f = some (l.any p) := by
  unfold m_slices_ContainsFunc_Lapi_Router_api_Router m_slices_IndexFunc_Lapi_Router_api_Router
  obtain ⟨r, h1, h2⟩ := idx_loop (B := fun (j1 : Int) (e1 : GRouter) (Z1 : Unit → Option Int) (sg : Unit) => match sg with | () => bnd (f e1) fun (vx_1 : Bool) => bif vx_1 then some (j1 : Int) else Z1 ()) (K := fun (sg : Unit) => match sg with | () => some (-1:Int)) p (fun j x Z s => by simp only [hf, bnd_s]) (fun _ => rfl) l 0 ()
  simp only [h1, bnd_s, h2]
theorem cfL (l : List GLink) (f : GLink → Option Bool) (p : GLink → Bool) (hf : ∀ x, f x = some (p x)) : m_slices_ContainsFunc_Lapi_Link_api_Link l f = some (l.any p) := by
  unfold m_slices_ContainsFunc_Lapi_Link_api_Link m_slices_IndexFunc_Lapi_Link_api_Link
  obtain ⟨r, h1, h2⟩ := idx_loop (B := fun (j1 : Int) (e1 : GLink) (Z1 : Unit → Option Int) (sg : Unit) => match sg with | () => bnd (f e1) fun (vx_1 : Bool) => bif vx_1 then some (j1 : Int) else Z1 ()) (K := fun (sg : Unit) => match sg with | () => some (-1:Int)) p (fun j x Z s => by simp only [hf, bnd_s]) (fun _ => rfl) l 0 ()
  simp only [h1, bnd_s, h2]
def cmpI (x y : Int) : Int := if x < y then -1 else if y < x then 1 else 0
theorem cmp_int (x y : Int) : m_cmp_Compare_int x y = some (cmpI x y) := by
  unfold m_cmp_Compare_int m_cmp_isNaN_int cmpI
  simp only [bnd_s, decide_true, Bool.not_true, cond_false, cond_d]
  split <;> (try split) <;> rfl
theorem cmpI_lt {x y : Int} : cmpI x y < 0 ↔ x < y := by unfold cmpI; split <;> (try split) <;> omega
theorem cmpI_eq {x y : Int} : cmpI x y = 0 ↔ x = y := by unfold cmpI; split <;> (try split) <;> omega
def orI : List Int → Int
  | [] => 0
  | x :: r => if x = 0 then orI r else x
theorem or_int (l : List Int) : m_cmp_Or_int l = some (orI l) := by
  unfold m_cmp_Or_int
  refine (forI_eq (f := fun l _ => some (orI l)) ?_ ?_ _ _ _)
  · intros; rfl
  · intro j x r s Z hZ
    simp only [orI, hZ]
    by_cases h : x = 0 <;> simp [h]
def cmpL (a b : GLink) : Int := orI [cmpI a.A b.A, cmpI a.B b.B]
theorem top_compare (a b : GLink) : m_topology_compare a b = some (cmpL a b) := by
  unfold m_topology_compare; simp only [cmp_int, bnd_s, or_int]; rfl
theorem top_byID (r : GRouter) (id : Int) : m_topology_byID r id = some (cmpI r.ID id) := by
  unfold m_topology_byID; simp only [cmp_int, bnd_s]
theorem cmpL_lt {a b : GLink} : cmpL a b < 0 ↔ ltL a b = true := by
  have : cmpL a b < 0 ↔ a.A < b.A ∨ (a.A = b.A ∧ a.B < b.B) := by
    simp only [cmpL, orI]
    split
    · rename_i h
      rw [cmpI_eq] at h
      split
      · rename_i h2; rw [cmpI_eq] at h2; omega
      · rw [cmpI_lt]; omega
    · rename_i h
      rw [cmpI_eq] at h
      rw [cmpI_lt]; omega
  rw [this]; simp [ltL]
theorem cmpL_eq {a b : GLink} : cmpL a b = 0 ↔ a.A = b.A ∧ a.B = b.B := by
  simp only [cmpL, orI]
  split
  · rename_i h
    rw [cmpI_eq] at h
    split
    · rename_i h2; rw [cmpI_eq] at h2; omega
    · rename_i h2; rw [cmpI_eq] at h2 ⊢; omega
  · rename_i h
    rw [cmpI_eq] at h ⊢; omega

/-! the binary search -/
def bsG {α : Type} [Inhabited α] (f : α → Int) (l : List α) (i j : Nat) : Nat :=
  if h : i < j then if f (el l ((i + j) / 2 : Nat)) < 0 then bsG f l ((i + j) / 2 + 1) j else bsG f l i ((i + j) / 2) else i
  termination_by j - i
  decreasing_by all_goals omega
def bsR {α : Type} [Inhabited α] (f : α → Int) (l : List α) : Nat := bsG f l 0 l.length
def bsT {α : Type} [Inhabited α] (f : α → Int) (l : List α) : Bool := decide (bsR f l < l.length) && decide (f (el l (bsR f l)) = 0)
theorem bsG_lt {α : Type} [Inhabited α] {f : α → Int} {l : List α} {i j : Nat} (h : i < j) (hf : f (el l ((i + j) / 2 : Nat)) < 0) : bsG f l i j = bsG f l ((i + j) / 2 + 1) j := by
  rw [bsG, dif_pos h, if_pos hf]
theorem bsG_ge {α : Type} [Inhabited α] {f : α → Int} {l : List α} {i j : Nat} (h : i < j) (hf : ¬ f (el l ((i + j) / 2 : Nat)) < 0) : bsG f l i j = bsG f l i ((i + j) / 2) := by
  rw [bsG, dif_pos h, if_neg hf]
theorem bsG_end {α : Type} [Inhabited α] {f : α → Int} {l : List α} {i j : Nat} (h : j ≤ i) : bsG f l i j = i := by
  rw [bsG, dif_neg (by omega)]
theorem el_nat {α : Type} [Inhabited α] {l : List α} {i : Nat} (h : i < l.length) : el l i = l[i] := by
  simp [el, List.getD_eq_getElem?_getD, h]
theorem el_mem {α : Type} [Inhabited α] {l : List α} {i : Nat} (h : i < l.length) : el l i ∈ l := by
  rw [el_nat h]; exact List.getElem_mem h
theorem elO_el {α : Type} [Inhabited α] {l : List α} {i : Nat} (h : i < l.length) : elO l (i : Int) = some (el l i) := by
  unfold elO; rw [if_pos (by omega), el_nat h]; simp [h]
theorem half_eq {i j : Nat} (h : i + j ≤ 4611686018427387904) : w64 (Int.fdiv (IntKind.wrap .u64 (w64 ((i : Int) + (j : Int)))) (2 ^ min (1:Int).toNat 64)) = (((i + j) / 2 : Nat) : Int) := by
  have e1 : w64 ((i : Int) + (j : Int)) = ((i + j : Nat) : Int) := by rw [w64_id (by omega) (by omega)]; simp
  have e2 : IntKind.wrap .u64 ((i + j : Nat) : Int) = ((i + j : Nat) : Int) := inK_u64 (by omega) (by omega)
  rw [e1, e2]
  have e3 : (2 : Int) ^ min (1:Int).toNat 64 = 2 := rfl
  rw [e3, Int.fdiv_eq_ediv_of_nonneg _ (by omega)]
  rw [w64_id (by omega) (by omega)]; simp
theorem bs_loop {α : Type} [Inhabited α] {F : ((Int × Int) → Option (Int × Bool)) → (Int × Int) → Option (Int × Bool)} (l : List α) (f : α → Int) (hl : l.length ≤ 1000000)
    (hF : ∀ (i j : Nat) Z, j ≤ l.length → F Z ((i : Int), (j : Int)) = if h : i < j then (if f (el l ((i + j) / 2 : Nat)) < 0 then Z ((((i + j) / 2 + 1 : Nat) : Int), (j : Int)) else Z ((i : Int), (((i + j) / 2 : Nat) : Int))) else some ((i : Int), decide (i < l.length) && decide (f (el l i) = 0))) :
    whl F ((0 : Int), (l.length : Int)) = some ((bsR f l : Int), bsT f l) := by
  refine Ok.eq (Ok.whl (I := fun s => ∃ i j : Nat, s = ((i : Int), (j : Int)) ∧ i ≤ j ∧ j ≤ l.length ∧ bsG f l i j = bsR f l) (μ := fun s => (s.2 - s.1).toNat) ⟨0, l.length, rfl, by omega, by omega, rfl⟩ ?_ ?_)
  · show ((l.length : Int) - 0).toNat < _; omega
  · rintro s Z ⟨i, j, rfl, h1, h2, h3⟩ hz
    rw [hF i j Z h2]
    split
    · rename_i hij
      split
      · rename_i hf
        exact hz _ ⟨_, _, rfl, by omega, h2, by rw [← h3, bsG_lt hij hf]⟩ (by show ((j : Int) - _).toNat < ((j : Int) - i).toNat; omega)
      · rename_i hf
        exact hz _ ⟨_, _, rfl, by omega, by omega, by rw [← h3, bsG_ge hij hf]⟩ (by show ((((i + j) / 2 : Nat) : Int) - i).toNat < ((j : Int) - i).toNat; omega)
    · rename_i hij
      have : bsR f l = i := by rw [← h3, bsG_end (by omega)]
      exact ⟨_, rfl, by simp only [bsT, this]⟩
theorem bsRt (l : List GRouter) (x : Int) (c : GRouter → Int → Option Int) (f : GRouter → Int) (hl : l.length ≤ 1000000) (hc : ∀ r, c r x = some (f r)) : m_slices_BinarySearchFunc_Lapi_Router_api_Router_int l x c = some ((bsR f l : Int), bsT f l) := by
  unfold m_slices_BinarySearchFunc_Lapi_Router_api_Router_int
  refine bs_loop l f hl fun i j Z hj => ?_
  by_cases hij : i < j
  · rw [dif_pos hij]
    simp only [half_eq (i := i) (j := j) (by omega), elO_el (show (i + j) / 2 < l.length by omega), bnd_s, hc, cond_d]
    rw [if_pos (by omega), w64_id (by omega) (by omega)]
    rfl
  · rw [dif_neg hij]
    simp only [cond_d]
    rw [if_neg (by omega)]
    by_cases hi : i < l.length
    · rw [if_pos (by omega), elO_el hi]; simp only [bnd_s, hc]; simp [hi]
    · rw [if_neg (by omega)]; simp [hi]
theorem bsLk (l : List GLink) (x : GLink) (c : GLink → GLink → Option Int) (f : GLink → Int) (hl : l.length ≤ 1000000) (hc : ∀ r, c r x = some (f r)) : m_slices_BinarySearchFunc_Lapi_Link_api_Link_api_Link l x c = some ((bsR f l : Int), bsT f l) := by
  unfold m_slices_BinarySearchFunc_Lapi_Link_api_Link_api_Link
  refine bs_loop l f hl fun i j Z hj => ?_
  by_cases hij : i < j
  · rw [dif_pos hij]
    simp only [half_eq (i := i) (j := j) (by omega), elO_el (show (i + j) / 2 < l.length by omega), bnd_s, hc, cond_d]
    rw [if_pos (by omega), w64_id (by omega) (by omega)]
    rfl
  · rw [dif_neg hij]
    simp only [cond_d]
    rw [if_neg (by omega)]
    by_cases hi : i < l.length
    · rw [if_pos (by omega), elO_el hi]; simp only [bnd_s, hc]; simp [hi]
    · rw [if_neg (by omega)]; simp [hi]
theorem bsG_spec {α : Type} [Inhabited α] {f : α → Int} {l : List α} (hm : ∀ a b : Nat, a ≤ b → b < l.length → f (el l a) ≤ f (el l b)) : ∀ (n i j : Nat), j - i ≤ n → i ≤ j → j ≤ l.length → (∀ m : Nat, m < i → f (el l m) < 0) → (∀ m : Nat, j ≤ m → m < l.length → 0 ≤ f (el l m)) →
    bsG f l i j ≤ l.length ∧ (∀ m : Nat, m < bsG f l i j → f (el l m) < 0) ∧ (∀ m : Nat, bsG f l i j ≤ m → m < l.length → 0 ≤ f (el l m)) := by
  intro n
  induction n with
  | zero =>
    intro i j hn hij hj h1 h2
    rw [bsG_end (by omega)]
    exact ⟨by omega, h1, fun m hm' => h2 m (by omega)⟩
  | succ n ih =>
    intro i j hn hij hj h1 h2
    by_cases h : i < j
    · by_cases hf : f (el l ((i + j) / 2 : Nat)) < 0
      · rw [bsG_lt h hf]
        refine ih _ _ (by omega) (by omega) hj (fun m hm' => ?_) h2
        have := hm m ((i + j) / 2) (by omega) (by omega)
        omega
      · rw [bsG_ge h hf]
        refine ih _ _ (by omega) (by omega) (by omega) h1 (fun m hm' hml => ?_)
        have := hm ((i + j) / 2) m hm' hml
        omega
    · rw [bsG_end (by omega)]
      exact ⟨by omega, h1, fun m hm' => h2 m (by omega)⟩
theorem bsR_spec {α : Type} [Inhabited α] {f : α → Int} {l : List α} (hm : ∀ a b : Nat, a ≤ b → b < l.length → f (el l a) ≤ f (el l b)) :
    bsR f l ≤ l.length ∧ (∀ m : Nat, m < bsR f l → f (el l m) < 0) ∧ (∀ m : Nat, bsR f l ≤ m → m < l.length → 0 ≤ f (el l m)) :=
  bsG_spec hm l.length 0 l.length (by omega) (by omega) (by omega) (fun m h => by omega) (fun m h1 h2 => by omega)
theorem bsT_iff {α : Type} [Inhabited α] {f : α → Int} {l : List α} (hm : ∀ a b : Nat, a ≤ b → b < l.length → f (el l a) ≤ f (el l b)) : bsT f l = true ↔ ∃ x ∈ l, f x = 0 := by
  obtain ⟨h1, h2, h3⟩ := bsR_spec hm
  simp only [bsT, Bool.and_eq_true, decide_eq_true_eq]
  constructor
  · rintro ⟨q1, q2⟩
    exact ⟨_, el_mem q1, q2⟩
  · rintro ⟨x, hx, hf⟩
    obtain ⟨m, hm1, rfl⟩ := List.getElem_of_mem hx
    rw [← el_nat hm1] at hf
    have hle : bsR f l ≤ m := by
      by_cases q : m < bsR f l
      · have := h2 m q; omega
      · omega
    have hlt : bsR f l < l.length := by omega
    have := h3 _ (Nat.le_refl _) hlt
    have := hm _ _ hle hm1
    exact ⟨hlt, by omega⟩
theorem mono_of_pairwise {α : Type} [Inhabited α] {f : α → Int} {l : List α} (h : l.Pairwise (fun a b => f a ≤ f b)) : ∀ a b : Nat, a ≤ b → b < l.length → f (el l a) ≤ f (el l b) := by
  intro a b hab hb
  rcases Nat.lt_or_eq_of_le hab with hab | rfl
  · have := List.pairwise_iff_getElem.1 h a b (by omega) hb hab
    rwa [el_nat (by omega), el_nat hb]
  · exact Int.le_refl _
theorem adj_pairwise {α : Type} {p : α → α → Bool} (ht : ∀ a b c, p a b = true → p b c = true → p a c = true) : ∀ {l : List α}, adjB p l = true → l.Pairwise (fun a b => p a b = true)
  | [], _ => List.Pairwise.nil
  | [x], _ => by simp
  | a :: b :: r, h => by
    simp only [adjB, Bool.and_eq_true] at h
    have ih := adj_pairwise ht h.2
    rw [List.pairwise_cons]
    refine ⟨fun z hz => ?_, ih⟩
    rcases List.mem_cons.1 hz with rfl | hz
    · exact h.1
    · exact ht _ _ _ h.1 ((List.pairwise_cons.1 ih).1 z hz)
theorem pairwise_adj {α : Type} {p : α → α → Bool} : ∀ {l : List α}, l.Pairwise (fun a b => p a b = true) → adjB p l = true
  | [], _ => rfl
  | [x], _ => rfl
  | a :: b :: r, h => by
    rw [List.pairwise_cons] at h
    simp only [adjB, Bool.and_eq_true]
    exact ⟨h.1 b (by simp), pairwise_adj h.2⟩
theorem asc_rs {t : GTopology} (h : kB t = true) : t.Routers.Pairwise (fun a b => a.ID < b.ID) := by
  have := adj_pairwise (p := fun a b : GRouter => decide (a.ID < b.ID)) (fun a b c h1 h2 => by simp at h1 h2 ⊢; omega) h
  exact this.imp (fun h => by simpa using h)
theorem mono_rs {t : GTopology} (h : kB t = true) (id : Int) : ∀ a b : Nat, a ≤ b → b < t.Routers.length → cmpI (el t.Routers a).ID id ≤ cmpI (el t.Routers b).ID id :=
  mono_of_pairwise (f := fun r : GRouter => cmpI r.ID id) ((asc_rs h).imp (fun {a b} h => by unfold cmpI; split <;> (try split) <;> (try split) <;> (try split) <;> omega))
def unkB (t : GTopology) (id : Int) : Bool := !bsT (fun r => cmpI r.ID id) t.Routers
theorem unkB_eq {t : GTopology} (h : kB t = true) (id : Int) : unkB t id = !hasB t id := by
  simp only [unkB, hasB]
  congr 1
  rw [Bool.eq_iff_iff, bsT_iff (mono_rs h id)]
  simp [cmpI_eq]
theorem top_check (t : GTopology) : m_topology_Check t = some (chkT t) := by
  unfold m_topology_Check chkT
  by_cases hlen : (decide (24 < (t.Routers.length : Int)) || decide (60 < (t.Links.length : Int))) = true
  · rw [hlen]; rfl
  rw [Bool.not_eq_true] at hlen
  rw [hlen]
  simp only [cond_false]
  simp only [Bool.or_eq_false_iff, decide_eq_false_iff_not] at hlen
  rw [cfR t.Routers _ badR (fun x => by simp only [m_topology_Check_1, m_topology_in, bnd_s, badR]; congr 1; rw [Bool.eq_iff_iff]; simp)]
  simp only [bnd_s]
  unfold kA
  cases t.Routers.any badR
  case true => rfl
  simp only [cond_false]
  refine (adj_loop0 (fun a b : GRouter => decide (a.ID < b.ID)) (some 25) ?_ ?_ _).trans ?_
  · intros; rfl
  · intro j x y r q s Z h hj
    simp only [jn, elO_prev h hj (by omega), bnd_s, cond_d]
    rw [if_pos (by omega)]
    split <;> split <;> first | rfl | omega
  cases hB : kB t
  case false => unfold kB at hB; rw [hB]; rfl
  have hB' := hB
  unfold kB at hB'
  rw [hB']
  simp only [cond_true]
  rw [cfL t.Links m_topology_Check_3 badL (fun x => by
    simp only [m_topology_Check_3, m_topology_in, bnd_s, badL, costB]
    simp only [cond_d, Bool.not_and, Bool.cond_eq_ite, Bool.or_eq_true, Bool.not_eq_true', decide_eq_false_iff_not]
    split
    · congr 1; symm; rw [Bool.eq_iff_iff]; simp; omega
    · split
      · congr 1; symm; rw [Bool.eq_iff_iff]; simp; omega
      · congr 1; rw [Bool.eq_iff_iff]; simp; omega)]
  simp only [bnd_s]
  unfold kC
  cases t.Links.any badL
  case true => rfl
  simp only [cond_false]
  have hu : ∀ id, m_topology_Check_2 id t = some (!hasB t id) := fun id => by
    unfold m_topology_Check_2
    rw [bsRt t.Routers id _ (fun r => cmpI r.ID id) (by omega) (fun r => top_byID r id)]
    simp only [bnd_s]
    rw [← unkB_eq hB]; rfl
  rw [cfL t.Links _ (fun l => !hasB t l.A || !hasB t l.B) (fun x => by
    simp only [m_topology_Check_4, hu, bnd_s]
    cases hasB t x.A <;> rfl)]
  simp only [bnd_s]
  unfold kD
  cases t.Links.any _
  case true => rfl
  simp only [cond_false]
  rw [cfL t.Links m_topology_Check_5 (fun l => decide (l.B ≤ l.A)) (fun x => rfl)]
  simp only [bnd_s]
  unfold kE
  cases t.Links.any _
  case true => rfl
  simp only [cond_false]
  refine (adj_loop0 ltL (some 25) ?_ ?_ _).trans ?_
  · intros; rfl
  · intro j x y r q s Z h hj
    simp only [jn, elO_prev h hj (by omega), bnd_s, top_compare, cond_d]
    rw [if_pos (by omega)]
    cases hlt : ltL y x
    · have : ¬ cmpL y x < 0 := by rw [cmpL_lt, hlt]; simp
      rw [if_pos (by omega)]; rfl
    · have := cmpL_lt.2 hlt
      rw [if_neg (by omega)]; rfl
  unfold kF
  cases adjB ltL t.Links <;> rfl
end Go.Proofs.Ytckhladakpjlgaa
