/- Plain: adverts and databases: valid, the check, equal, found; what the tape's readers give. No condition. -/
import Derived.Test.YtmcjffllahcclaaPM
import Derived.Test.YtmcjffllahcclaaDA
namespace Go.Proofs.Ytmcjffllahcclaa
set_option linter.all false
open Go

/-- a loop that looks at each element and at the one ahead of it -/
theorem mix_loop {α σ β : Type} {B : Int → α → (σ → Option β) → σ → Option β} {K : σ → Option β} {L : List α} (g : α → Bool) (p : α → α → Bool) (a : Option β) (h0 : ∀ x Z s, B ((0 : Nat) : Int) x Z s = bif g x then Z s else a)
    (hB : ∀ (j : Nat) x y r q s Z, L = q ++ y :: x :: r → j = q.length + 1 → B (j : Int) x Z s = bif g x && p y x then Z s else a) (s : σ) : forI L 0 B K s = bif L.all g && adjB p L then K s else a := by
  have key : ∀ (r q : List α) (y : α) (s : σ), L = q ++ y :: r → forI r (q.length + 1) B K s = bif r.all g && adjB p (y :: r) then K s else a := by
    intro r
    induction r with
    | nil => intro q y s _; rfl
    | cons x r ih =>
      intro q y s h
      simp only [forI]
      rw [hB (q.length + 1) x y r q s _ h rfl]
      have := ih (q ++ [y]) x s (by simpa using h)
      simp only [List.length_append, List.length_cons, List.length_nil] at this
      rw [this]
      simp only [adjB, List.all_cons]
      cases g x <;> cases p y x <;> simp
  cases L with
  | nil => rfl
  | cons y r =>
    simp only [forI]
    rw [h0]
    have := key r [] y s rfl
    simp only [List.length_nil] at this
    rw [this, List.all_cons]
    cases g y <;> simp
def inB (n lo hi : Int) : Bool := decide (lo ≤ n) && decide (n ≤ hi)
def goodR (a : GAdvert) (x : GReach) : Bool := inB x.Neighbour 1 99 && !decide (x.Neighbour = a.Router) && inB x.Cost 1 1000 && inB x.Capacity 0 1000
def lenB (n : Int) : Bool := decide (n = 8) || (decide (n = 16) || (decide (n = 32) || decide (n = 64)))
def goodC (c : GClaim) : Bool := inB c.Subdomain 0 7 && inB c.ID 1 256 && lenB c.Length
def ascL (l : List GReach) : Bool := adjB (fun a b => decide (a.Neighbour < b.Neighbour)) l
def ascC (l : List GClaim) : Bool := adjB (fun a b => decide (a.Subdomain < b.Subdomain)) l
def validB (a : GAdvert) : Bool := (inB a.Router 1 99 && inB a.Seq 1 1000000 && decide ((a.Links.length : Int) ≤ 23)) && (a.Links.all (goodR a) && ascL a.Links) && (decide ((a.Claims.length : Int) ≤ 8) && (a.Claims.all goodC && ascC a.Claims))
theorem le_not {x y : Int} : decide (x ≤ y) = !decide (y < x) := by
  by_cases h : y < x
  · simp [h]
  · simp [h]; omega
theorem inE (n lo hi : Int) : m_advert_in n lo hi = some (inB n lo hi) := rfl
theorem lenE2 (n : Int) : m_bitset_ValidLength n = some (lenB n) := by
  unfold m_bitset_ValidLength lenB
  cases decide (n = 8) <;> cases decide (n = 16) <;> cases decide (n = 32) <;> cases decide (n = 64) <;> rfl
theorem ad_valid (a : GAdvert) : m_advert_Valid a = some (validB a) := by
  unfold m_advert_Valid validB
  simp only [jn, inE, bnd_s]
  by_cases h : (a.Links.length : Int) ≤ 23
  · have h' : ¬ (23 : Int) < a.Links.length := by omega
    by_cases hc : (a.Claims.length : Int) ≤ 8
    · have hc' : ¬ (8 : Int) < a.Claims.length := by omega
      simp only [h, h', hc, hc', decide_true, decide_false, Bool.and_true, Bool.true_and]
      cases inB a.Router 1 99 <;> cases inB a.Seq 1 1000000 <;> simp only [Bool.not_true, Bool.not_false, cond_true, cond_false, Bool.false_and, Bool.true_and, Bool.and_self]
      refine (mix_loop (goodR a) (fun a b => decide (a.Neighbour < b.Neighbour)) (some false) ?_ ?_ _).trans ?_
      · intro x Z s
        simp only [bnd_s, goodR]
        cases inB x.Neighbour 1 99 <;> cases decide (x.Neighbour = a.Router) <;> cases inB x.Cost 1 1000 <;> cases inB x.Capacity 0 1000 <;> rfl
      · intro j x y r q s Z hL hj
        have : decide ((0 : Int) < (j : Int)) = true := by simp; omega
        simp only [bnd_s, goodR, elO_prev hL hj (by omega), le_not, this]
        cases inB x.Neighbour 1 99 <;> cases decide (x.Neighbour = a.Router) <;> cases inB x.Cost 1 1000 <;> cases inB x.Capacity 0 1000 <;> cases decide (y.Neighbour < x.Neighbour) <;> rfl
      · refine Eq.trans (b := bif a.Links.all (goodR a) && ascL a.Links then (bif a.Claims.all goodC && ascC a.Claims then some true else some false) else some false) ?_ ?_
        · unfold ascL
          congr 1
          refine (mix_loop goodC (fun a b => decide (a.Subdomain < b.Subdomain)) (some false) ?_ ?_ _).trans ?_
          · intro x Z s
            simp only [lenE2, bnd_s, goodC]
            cases inB x.Subdomain 0 7 <;> cases inB x.ID 1 256 <;> cases lenB x.Length <;> rfl
          · intro j x y r q s Z hL hj
            have : decide ((0 : Int) < (j : Int)) = true := by simp; omega
            simp only [lenE2, bnd_s, goodC, elO_prev hL hj (by omega), le_not, this]
            cases inB x.Subdomain 0 7 <;> cases inB x.ID 1 256 <;> cases lenB x.Length <;> cases decide (y.Subdomain < x.Subdomain) <;> rfl
          · rfl
        · cases a.Links.all (goodR a) && ascL a.Links <;> cases a.Claims.all goodC && ascC a.Claims <;> rfl
    · have hc' : (8 : Int) < a.Claims.length := by omega
      simp only [h, h', hc, hc', decide_true, decide_false, Bool.and_false, Bool.false_and]
      cases inB a.Router 1 99 <;> cases inB a.Seq 1 1000000 <;> rfl
  · have h' : (23 : Int) < a.Links.length := by omega
    simp only [h, h', decide_true, decide_false, Bool.and_false, Bool.false_and]
    cases inB a.Router 1 99 <;> cases inB a.Seq 1 1000000 <;> rfl

/-! the check -/
def ascA (d : GDatabase) : Bool := adjB (fun a b => decide (a.Router < b.Router)) d.Adverts
def dbC (d : GDatabase) : Int := bif decide ((99 : Int) < (d.Adverts.length : Int)) then 3 else bif d.Adverts.all validB then (bif ascA d then 0 else 25) else 1
theorem cfA (l : List GAdvert) (f : GAdvert → Option Bool) (p : GAdvert → Bool) (hf : ∀ x, f x = some (p x)) : m_slices_ContainsFunc_Lapi_Advert_api_Advert l f = some (l.any p) := by
  unfold m_slices_ContainsFunc_Lapi_Advert_api_Advert m_slices_IndexFunc_Lapi_Advert_api_Advert
  obtain ⟨r, h1, h2⟩ := idx_loop (B := fun (j1 : Int) (e1 : GAdvert) (Z1 : Unit → Option Int) (sg : Unit) => match sg with | () => bnd (f e1) fun (vx_1 : Bool) => bif vx_1 then some (j1 : Int) else Z1 ()) (K := fun (sg : Unit) => match sg with | () => some (-1:Int)) p (fun j x Z s => by simp only [hf, bnd_s]) (fun _ => rfl) l 0 ()
  simp only [h1, bnd_s, h2]
theorem db_check (d : GDatabase) : m_database_Check d = some (dbC d) := by
  unfold m_database_Check dbC
  by_cases h : (99 : Int) < d.Adverts.length
  · simp [h]
  simp only [h, decide_false, cond_false]
  rw [cfA d.Adverts _ (fun a => !validB a) (fun x => by simp only [m_database_Check_1, ad_valid, bnd_s]), bnd_s]
  rw [← List.not_all_eq_any_not]
  cases d.Adverts.all validB
  · rfl
  simp only [Bool.not_true, cond_false, cond_true]
  refine (adj_loop0 (fun a b : GAdvert => decide (a.Router < b.Router)) (some 25) ?_ ?_ _).trans ?_
  · intros; rfl
  · intro j x y r q s Z hL hj
    have : decide ((0 : Int) < (j : Int)) = true := by simp; omega
    simp only [jn, elO_prev hL hj (by omega), bnd_s, le_not, this]
    cases decide (y.Router < x.Router) <;> rfl
  · unfold ascA; cases adjB _ d.Adverts <;> rfl

/-! equal -/
/-! found -/
def noA : GAdvert := GAdvert.mk 0 0 false [] []
def findA (d : GDatabase) (r : Int) : GAdvert × Bool := match d.Adverts.find? (fun a => decide (a.Router = r)) with | some a => (a, true) | none => (noA, false)
/-- lists of a size that can be copied -/
def SmA (a : GAdvert) : Prop := a.Links.length ≤ 100000 ∧ a.Claims.length ≤ 100000
def SmD (d : GDatabase) : Prop := d.Adverts.length ≤ 100000 ∧ ∀ a ∈ d.Adverts, SmA a
theorem cloneR {l : List GReach} (h : l.length ≤ 100000) : m_slices_Clone_Lapi_Reach_api_Reach l = some l := by
  unfold m_slices_Clone_Lapi_Reach_api_Reach m_slices_Clone_Lapi_Reach_api_Reach_l
  rw [appO_ok (by simp; omega)]; rfl
theorem cloneC {l : List GClaim} (h : l.length ≤ 100000) : m_slices_Clone_Lapi_Claim_api_Claim l = some l := by
  unfold m_slices_Clone_Lapi_Claim_api_Claim m_slices_Clone_Lapi_Claim_api_Claim_l
  rw [appO_ok (by simp; omega)]; rfl
theorem db_copied {a : GAdvert} (h : SmA a) : m_database_copied a = some a := by
  unfold m_database_copied
  rw [cloneR h.1, bnd_s, cloneC h.2, bnd_s]
theorem db_find {d : GDatabase} (h : SmD d) (r : Int) : m_database_Find d r = some (findA d r) := by
  unfold m_database_Find
  rw [find_loop (fun a : GAdvert => decide (a.Router = r)) (fun a => bnd (m_database_copied a) fun (vx_1 : GAdvert) => some (vx_1, true)) (fun j x Z s => rfl)]
  unfold findA
  cases hf : d.Adverts.find? (fun a => decide (a.Router = r)) with
  | none => rfl
  | some a => simp only [db_copied (h.2 a (List.mem_of_find?_eq_some hf)), bnd_s]
end Go.Proofs.Ytmcjffllahcclaa
