/- Plain: adverts and databases: valid, the check, equal, found; what the tape's readers give. No condition. -/
import Derived.Test.YtmcjffllahcclaaGreatPM
import Derived.Test.YtmcjffllahcclaaGreatDA
namespace Go.Proofs.YtmcjffllahcclaaGreat
set_option linter.all false
open Go

/-- a loop that looks at each element and at the one ahead of it -/
theorem mix_loop {α σ β : Type} {B : Int → α → (σ → Option β) → σ → Option β} {K : σ → Option β} {L : List α} (g : α → Bool) (p : α → α → Bool) (a : Option β) (h0 : ∀ x Z s, B ((0 : Nat) : Int) x Z s = bif g x then Z s else a)
    (hB : ∀ (j : Nat) x y r q s Z, L = q ++ y :: x :: r → j = q.length + 1 → B (j : Int) x Z s = bif g x && p y x then Z s else a) (s : σ) : forI L 0 B K s = bif L.all g && adjB p L then K s else a := by
  have key : ∀ (r q : List α) (y : α) (s : σ), L = q ++ y :: r → forI r (q.length + 1) B K s = bif r.all g && adjB p (y :: r) then K s else a := by
    intro r
    induction r with
    | nil => intro q y s _; rfl
    | cons x r ih =>
      intro q y s h
      simp only [forI]
      rw [hB (q.length + 1) x y r q s _ h rfl]
      have := ih (q ++ [y]) x s (by simpa using h)
      simp only [List.length_append, List.length_cons, List.length_nil] at this
      rw [this]
      simp only [adjB, List.all_cons]
      cases g x <;> cases p y x <;> simp
  cases L with
  | nil => rfl
  | cons y r =>
    simp only [forI]
    rw [h0]
    have := key r [] y s rfl
    simp only [List.length_nil] at this
    rw [this, List.all_cons]
    cases g y <;> simp
/-- a loop along two lists -/
theorem zip_loop {α γ β : Type} {B : Int → α → (Unit → Option β) → Unit → Option β} {K : Unit → Option β} (e : α → γ → Bool) (a : Option β) {m : List γ} (hB : ∀ j x Z s, B j x Z s = bnd (elO m j) fun y => bif !(e x y) then a else Z s) :
    ∀ (l : List α), l.length = m.length → forI l 0 B K () = bif (l.zip m).all (fun p => e p.1 p.2) then K () else a := by
  have key : ∀ (l : List α) (q r : List γ), m = q ++ r → l.length = r.length → forI l q.length B K () = bif (l.zip r).all (fun p => e p.1 p.2) then K () else a := by
    intro l
    induction l with
    | nil => intro q r _ h; rfl
    | cons x l ih =>
      intro q r hm hl
      cases r with
      | nil => simp at hl
      | cons y r =>
        simp only [forI, hB, hm, elO_at, bnd_s]
        have := ih (q ++ [y]) r (by simpa using hm) (by simpa using hl)
        simp only [List.length_append, List.length_cons, List.length_nil] at this
        rw [this, List.zip_cons_cons, List.all_cons]
        cases e x y <;> rfl
  intro l h
  exact key l [] m rfl h

def inB (n lo hi : Int) : Bool := decide (lo ≤ n) && decide (n ≤ hi)
def goodR (a : GAdvert) (x : GReach) : Bool := inB x.Neighbour 1 99 && !decide (x.Neighbour = a.Router) && inB x.Cost 1 1000 && inB x.Capacity 0 1000
def lenB (n : Int) : Bool := decide (n = 8) || (decide (n = 16) || (decide (n = 32) || decide (n = 64)))
def goodC (c : GClaim) : Bool := inB c.Subdomain 0 7 && inB c.ID 1 256 && lenB c.Length
def ascL (l : List GReach) : Bool := adjB (fun a b => decide (a.Neighbour < b.Neighbour)) l
def ascC (l : List GClaim) : Bool := adjB (fun a b => decide (a.Subdomain < b.Subdomain)) l
def validB (a : GAdvert) : Bool := (inB a.Router 1 99 && inB a.Seq 1 1000000 && decide ((a.Links.length : Int) ≤ 23)) && (a.Links.all (goodR a) && ascL a.Links) && (decide ((a.Claims.length : Int) ≤ 8) && (a.Claims.all goodC && ascC a.Claims))
theorem le_not {x y : Int} : decide (x ≤ y) = !decide (y < x) := by
  by_cases h : y < x
  · simp [h]
  · simp [h]; omega
theorem insideE (n lo hi : Int) : m_ref07_inside n lo hi = some (inB n lo hi) := rfl
theorem lenE1 (n : Int) : m_ref01_ValidLength n = some (lenB n) := rfl
theorem inE (n lo hi : Int) : m_advert_in n lo hi = some (inB n lo hi) := rfl
theorem lenE2 (n : Int) : m_bitset_ValidLength n = some (lenB n) := by
  unfold m_bitset_ValidLength lenB
  cases decide (n = 8) <;> cases decide (n = 16) <;> cases decide (n = 32) <;> cases decide (n = 64) <;> rfl
theorem ref07_claims (l : List GClaim) : m_ref07_ValidClaims l = some (decide ((l.length : Int) ≤ 8) && (l.all goodC && ascC l)) := by
  unfold m_ref07_ValidClaims
  by_cases h : (8 : Int) < l.length
  · have h' : ¬ (l.length : Int) ≤ 8 := by omega
    simp [h, h']
  · have h' : (l.length : Int) ≤ 8 := by omega
    simp only [h, decide_false, cond_false, h', decide_true, Bool.true_and]
    refine (mix_loop goodC (fun a b => decide (a.Subdomain < b.Subdomain)) (some false) ?_ ?_ _).trans ?_
    · intro x Z s
      simp only [jn, insideE, lenE1, bnd_s, goodC]
      cases inB x.Subdomain 0 7 <;> cases inB x.ID 1 256 <;> cases lenB x.Length <;> rfl
    · intro j x y r q s Z hL hj
      have : decide ((0 : Int) < (j : Int)) = true := by simp; omega
      simp only [jn, insideE, lenE1, bnd_s, goodC, elO_prev hL hj (by omega), le_not, this]
      cases inB x.Subdomain 0 7 <;> cases inB x.ID 1 256 <;> cases lenB x.Length <;> cases decide (y.Subdomain < x.Subdomain) <;> rfl
    · unfold ascC; cases l.all goodC && adjB _ l <;> rfl
theorem ref07_valid (a : GAdvert) : m_ref07_Valid a = some (validB a) := by
  unfold m_ref07_Valid validB
  simp only [jn, insideE, bnd_s]
  by_cases h : (a.Links.length : Int) ≤ 23
  · have h' : ¬ (23 : Int) < a.Links.length := by omega
    simp only [h, h', decide_true, decide_false, Bool.and_true]
    cases inB a.Router 1 99 <;> cases inB a.Seq 1 1000000 <;> simp only [Bool.not_true, Bool.not_false, cond_true, cond_false, Bool.false_and, Bool.true_and, Bool.and_self]
    refine (mix_loop (goodR a) (fun a b => decide (a.Neighbour < b.Neighbour)) (some false) ?_ ?_ _).trans ?_
    · intro x Z s
      simp only [bnd_s, goodR]
      cases inB x.Neighbour 1 99 <;> cases decide (x.Neighbour = a.Router) <;> cases inB x.Cost 1 1000 <;> cases inB x.Capacity 0 1000 <;> rfl
    · intro j x y r q s Z hL hj
      have : decide ((0 : Int) < (j : Int)) = true := by simp; omega
      simp only [bnd_s, goodR, elO_prev hL hj (by omega), le_not, this]
      cases inB x.Neighbour 1 99 <;> cases decide (x.Neighbour = a.Router) <;> cases inB x.Cost 1 1000 <;> cases inB x.Capacity 0 1000 <;> cases decide (y.Neighbour < x.Neighbour) <;> rfl
    · simp only [ref07_claims, bnd_s]
      unfold ascL
      cases a.Links.all (goodR a) && adjB _ a.Links <;> rfl
  · have h' : (23 : Int) < a.Links.length := by omega
    simp only [h, h', decide_true, decide_false, Bool.and_false, Bool.false_and]
    cases inB a.Router 1 99 <;> cases inB a.Seq 1 1000000 <;> rfl
theorem ad_valid (a : GAdvert) : m_advert_Valid a = some (validB a) := by
  unfold m_advert_Valid validB
  simp only [jn, inE, bnd_s]
  by_cases h : (a.Links.length : Int) ≤ 23
  · have h' : ¬ (23 : Int) < a.Links.length := by omega
    by_cases hc : (a.Claims.length : Int) ≤ 8
    · have hc' : ¬ (8 : Int) < a.Claims.length := by omega
      simp only [h, h', hc, hc', decide_true, decide_false, Bool.and_true, Bool.true_and]
      cases inB a.Router 1 99 <;> cases inB a.Seq 1 1000000 <;> simp only [Bool.not_true, Bool.not_false, cond_true, cond_false, Bool.false_and, Bool.true_and, Bool.and_self]
      refine (mix_loop (goodR a) (fun a b => decide (a.Neighbour < b.Neighbour)) (some false) ?_ ?_ _).trans ?_
      · intro x Z s
        simp only [bnd_s, goodR]
        cases inB x.Neighbour 1 99 <;> cases decide (x.Neighbour = a.Router) <;> cases inB x.Cost 1 1000 <;> cases inB x.Capacity 0 1000 <;> rfl
      · intro j x y r q s Z hL hj
        have : decide ((0 : Int) < (j : Int)) = true := by simp; omega
        simp only [bnd_s, goodR, elO_prev hL hj (by omega), le_not, this]
        cases inB x.Neighbour 1 99 <;> cases decide (x.Neighbour = a.Router) <;> cases inB x.Cost 1 1000 <;> cases inB x.Capacity 0 1000 <;> cases decide (y.Neighbour < x.Neighbour) <;> rfl
      · refine Eq.trans (b := bif a.Links.all (goodR a) && ascL a.Links then (bif a.Claims.all goodC && ascC a.Claims then some true else some false) else some false) ?_ ?_
        · unfold ascL
          congr 1
          refine (mix_loop goodC (fun a b => decide (a.Subdomain < b.Subdomain)) (some false) ?_ ?_ _).trans ?_
          · intro x Z s
            simp only [lenE2, bnd_s, goodC]
            cases inB x.Subdomain 0 7 <;> cases inB x.ID 1 256 <;> cases lenB x.Length <;> rfl
          · intro j x y r q s Z hL hj
            have : decide ((0 : Int) < (j : Int)) = true := by simp; omega
            simp only [lenE2, bnd_s, goodC, elO_prev hL hj (by omega), le_not, this]
            cases inB x.Subdomain 0 7 <;> cases inB x.ID 1 256 <;> cases lenB x.Length <;> cases decide (y.Subdomain < x.Subdomain) <;> rfl
          · rfl
        · cases a.Links.all (goodR a) && ascL a.Links <;> cases a.Claims.all goodC && ascC a.Claims <;> rfl
    · have hc' : (8 : Int) < a.Claims.length := by omega
      simp only [h, h', hc, hc', decide_true, decide_false, Bool.and_false, Bool.false_and]
      cases inB a.Router 1 99 <;> cases inB a.Seq 1 1000000 <;> rfl
  · have h' : (23 : Int) < a.Links.length := by omega
    simp only [h, h', decide_true, decide_false, Bool.and_false, Bool.false_and]
    cases inB a.Router 1 99 <;> cases inB a.Seq 1 1000000 <;> rfl

/-! the check -/
def ascA (d : GDatabase) : Bool := adjB (fun a b => decide (a.Router < b.Router)) d.Adverts
def dbC (d : GDatabase) : Int := bif decide ((99 : Int) < (d.Adverts.length : Int)) then 3 else bif d.Adverts.all validB then (bif ascA d then 0 else 25) else 1
theorem ref08_check (d : GDatabase) : m_ref08_Check d = some (dbC d) := by
  unfold m_ref08_Check dbC
  by_cases h : (99 : Int) < d.Adverts.length
  · simp [h]
  simp only [h, decide_false, cond_false]
  refine (any_loop (fun a => !validB a) (some 1) ?_ _ _ _).trans ?_
  · intro j x Z s; simp only [ref07_valid, bnd_s]
  rw [← List.not_all_eq_any_not]
  cases d.Adverts.all validB
  · rfl
  simp only [Bool.not_true, cond_false, cond_true]
  refine (adj_loop1 (fun a b : GAdvert => decide (a.Router < b.Router)) (some 25) ?_ _).trans ?_
  · intro j x y r q s Z hL hj
    simp only [elO_prev hL hj (by omega), bnd_s, le_not]
    cases decide (y.Router < x.Router) <;> rfl
  · unfold ascA; cases adjB _ d.Adverts <;> rfl
theorem cfA (l : List GAdvert) (f : GAdvert → Option Bool) (p : GAdvert → Bool) (hf : ∀ x, f x = some (p x)) : m_slices_ContainsFunc_Lapi_Advert_api_Advert l f = some (l.any p) := by
  unfold m_slices_ContainsFunc_Lapi_Advert_api_Advert m_slices_IndexFunc_Lapi_Advert_api_Advert
  obtain ⟨r, h1, h2⟩ := idx_loop (B := fun (j1 : Int) (e1 : GAdvert) (Z1 : Unit → Option Int) (sg : Unit) => match sg with | () => bnd (f e1) fun (vx_1 : Bool) => bif vx_1 then some (j1 : Int) else Z1 ()) (K := fun (sg : Unit) => match sg with | () => some (-1:Int)) p (fun j x Z s => by simp only [hf, bnd_s]) (fun _ => rfl) l 0 ()
  simp only [h1, bnd_s, h2]
theorem db_check (d : GDatabase) : m_database_Check d = some (dbC d) := by
  unfold m_database_Check dbC
  by_cases h : (99 : Int) < d.Adverts.length
  · simp [h]
  simp only [h, decide_false, cond_false]
  rw [cfA d.Adverts _ (fun a => !validB a) (fun x => by simp only [m_database_Check_1, ad_valid, bnd_s]), bnd_s]
  rw [← List.not_all_eq_any_not]
  cases d.Adverts.all validB
  · rfl
  simp only [Bool.not_true, cond_false, cond_true]
  refine (adj_loop0 (fun a b : GAdvert => decide (a.Router < b.Router)) (some 25) ?_ ?_ _).trans ?_
  · intros; rfl
  · intro j x y r q s Z hL hj
    have : decide ((0 : Int) < (j : Int)) = true := by simp; omega
    simp only [jn, elO_prev hL hj (by omega), bnd_s, le_not, this]
    cases decide (y.Router < x.Router) <;> rfl
  · unfold ascA; cases adjB _ d.Adverts <;> rfl

/-! equal -/
def eqRs (l m : List GReach) : Bool := decide ((l.length : Int) = m.length) && (l.zip m).all (fun p => eqGReach p.1 p.2)
def eqCs (l m : List GClaim) : Bool := decide ((l.length : Int) = m.length) && (l.zip m).all (fun p => eqGClaim p.1 p.2)
def sameA (a b : GAdvert) : Bool := decide (a.Router = b.Router) && (decide (a.Seq = b.Seq) && ((a.Capable == b.Capable) && (eqRs a.Links b.Links && eqCs a.Claims b.Claims)))
theorem ref07_same (a b : GAdvert) : m_ref07_Same a b = some (sameA a b) := by
  unfold m_ref07_Same sameA eqRs eqCs
  by_cases hl : (a.Links.length : Int) = b.Links.length
  · by_cases hc : (a.Claims.length : Int) = b.Claims.length
    · simp only [hl, hc, decide_true, Bool.not_true, Bool.or_false, Bool.true_and]
      rw [zip_loop eqGReach (some false) (fun j x Z s => rfl) a.Links (by omega), zip_loop eqGClaim (some false) (fun j x Z s => rfl) a.Claims (by omega)]
      cases decide (a.Router = b.Router) <;> cases decide (a.Seq = b.Seq) <;> cases (a.Capable == b.Capable) <;> cases (a.Links.zip b.Links).all _ <;> cases (a.Claims.zip b.Claims).all _ <;> rfl
    · simp [hc]
  · simp [hl]
def sameD (a b : GDatabase) : Bool := decide ((a.Adverts.length : Int) = b.Adverts.length) && (a.Adverts.zip b.Adverts).all (fun p => sameA p.1 p.2)
theorem ref08_same (a b : GDatabase) : m_ref08_Same a b = some (sameD a b) := by
  unfold m_ref08_Same sameD
  by_cases h : (a.Adverts.length : Int) = b.Adverts.length
  · simp only [h, decide_true, Bool.not_true, cond_false, Bool.true_and]
    rw [zip_loop (m := b.Adverts) sameA (some false) (fun j x Z s => by simp only [ref07_same, bnd_s]) a.Adverts (by omega)]
    cases (a.Adverts.zip b.Adverts).all _ <;> rfl
  · simp [h]
theorem eqGReach_self (a : GReach) : eqGReach a a = true := by simp [eqGReach]
theorem eqGClaim_self (a : GClaim) : eqGClaim a a = true := by simp [eqGClaim]
theorem zip_self {α : Type} (e : α → α → Bool) (h : ∀ x, e x x = true) : ∀ l : List α, (l.zip l).all (fun p => e p.1 p.2) = true
  | [] => rfl
  | x :: r => by simp only [List.zip_cons_cons, List.all_cons, h, zip_self e h r, Bool.and_self]
theorem sameA_self (a : GAdvert) : sameA a a = true := by
  unfold sameA eqRs eqCs
  rw [zip_self eqGReach eqGReach_self, zip_self eqGClaim eqGClaim_self]; simp

/-! found -/
def noA : GAdvert := GAdvert.mk 0 0 false [] []
def findA (d : GDatabase) (r : Int) : GAdvert × Bool := match d.Adverts.find? (fun a => decide (a.Router = r)) with | some a => (a, true) | none => (noA, false)
theorem ref08_find (d : GDatabase) (r : Int) : m_ref08_Find d r = some (findA d r) := by
  unfold m_ref08_Find
  rw [find_loop (fun a : GAdvert => decide (a.Router = r)) (fun a => some (a, true)) (fun j x Z s => rfl)]
  unfold findA
  cases d.Adverts.find? _ <;> rfl
/-- lists of a size that can be copied -/
def SmA (a : GAdvert) : Prop := a.Links.length ≤ 100000 ∧ a.Claims.length ≤ 100000
def SmD (d : GDatabase) : Prop := d.Adverts.length ≤ 100000 ∧ ∀ a ∈ d.Adverts, SmA a
theorem cloneR {l : List GReach} (h : l.length ≤ 100000) : m_slices_Clone_Lapi_Reach_api_Reach l = some l := by
  unfold m_slices_Clone_Lapi_Reach_api_Reach m_slices_Clone_Lapi_Reach_api_Reach_l
  rw [appO_ok (by simp; omega)]; rfl
theorem cloneC {l : List GClaim} (h : l.length ≤ 100000) : m_slices_Clone_Lapi_Claim_api_Claim l = some l := by
  unfold m_slices_Clone_Lapi_Claim_api_Claim m_slices_Clone_Lapi_Claim_api_Claim_l
  rw [appO_ok (by simp; omega)]; rfl
theorem db_copied {a : GAdvert} (h : SmA a) : m_database_copied a = some a := by
  unfold m_database_copied
  rw [cloneR h.1, bnd_s, cloneC h.2, bnd_s]
end Go.Proofs.YtmcjffllahcclaaGreat
