/- Plain: planned changes of a topology, by both. No condition. -/
import Derived.Test.YtckhladakpjlgaaP3
import Derived.Test.YtckhladakpjlgaaP4
import Derived.Test.YtckhladakpjlgaaP2
import Derived.Test.YtckhladakpjlgaaDA
namespace Go.Proofs.Ytckhladakpjlgaa
set_option linter.all false
open Go

theorem forI_append {α σ β : Type} {B : Int → α → (σ → Option β) → σ → Option β} {K : σ → Option β} : ∀ (a b : List α) (j : Nat) (s : σ), forI (a ++ b) j B K s = forI a j B (fun s => forI b (j + a.length) B K s) s
  | [], b, j, s => rfl
  | x :: a, b, j, s => by
    simp only [List.cons_append, forI]
    congr 1
    funext s'
    rw [forI_append a b (j + 1) s', List.length_cons, Nat.add_assoc, Nat.add_comm 1]
/-- a loop whose rounds all add the element -/
theorem copy_loop {α σ β : Type} {B : Int → α → (σ → Option β) → σ → Option β} {K : σ → Option β} (f : List α → σ) : ∀ (a p : List α) (j : Nat), (∀ (j : Int) x q Z, x ∈ a → q.length ≤ p.length + a.length → B j x Z (f q) = Z (f (q ++ [x]))) → forI a j B K (f p) = K (f (p ++ a))
  | [], p, j, _ => by rw [List.append_nil]; rfl
  | x :: a, p, j, h => by
    simp only [forI]
    rw [h j x p _ (by simp) (by omega), copy_loop f a (p ++ [x]) (j + 1) (fun j y q Z hy hq => h j y q Z (by simp [hy]) (by simp at hq ⊢; omega))]
    simp
theorem change_ok {t : GTape} {g : GTopology} {n : Int} (h : TapeOk t) (hg : g.Routers.length ≤ 1000000 ∧ g.Links.length ≤ 1000000) (hn : n ≤ 9223372036854775807) : Ok (m_mk_Tape_Change t g n) (fun p => TapeOk p.2) := by
  unfold m_mk_Tape_Change
  refine Ok.bnd (next_ok h (by omega)) fun p1 h1 => Ok.bnd (next_ok h1.2 (by omega)) fun p2 h2 => Ok.bnd (range_ok h2.2) fun p3 h3 => Ok.bnd (range_ok h3.2) fun p4 h4 => ?_
  refine Ok.jn (fun s : List Int × Int × Int × Int × Int × Int => TapeOk (GTape.mk s.1 s.2.1)) (fun s hs => ?_) fun J1 hJ1 => ?_
  · obtain ⟨a1, a2, a3, a4, a5, a6⟩ := s
    refine Ok.jn (fun s : List Int × Int × Int × Int × Int × Int => TapeOk (GTape.mk s.1 s.2.1)) (fun s hs => by obtain ⟨_, _, _, _, _, _⟩ := s; exact Ok.s hs) fun J3 hJ3 => ?_
    refine Ok.jn (fun s : Bool × List Int × Int => TapeOk (GTape.mk s.2.1 s.2.2)) (fun s hs => ?_) fun J4 hJ4 => ?_
    · obtain ⟨v, b1, b2⟩ := s
      refine Ok.cs (fun _ => ?_) fun _ => hJ3 _ hs
      refine Ok.bnd (next_ok hs (by omega)) fun q hq => ?_
      refine Ok.cs (fun _ => Ok.bnd (next_ok hq.2 (by omega)) fun r hr => hJ3 _ hr.2) fun _ => ?_
      refine Ok.cs (fun _ => hJ3 _ hq.2) fun _ => ?_
      exact Ok.cs (fun _ => Ok.bnd (wild_ok hq.2) fun r hr => hJ3 _ hr) fun _ => Ok.bnd (next_ok hq.2 (by omega)) fun r hr => hJ3 _ hr.2
    · exact Ok.cs (fun _ => Ok.bnd (one_ok hs hn) fun q hq => hJ4 _ hq) fun _ => hJ4 _ hs
  refine Ok.jn (fun s : Bool × List Int × Int => (s.1 = true → 1 ≤ g.Links.length) ∧ TapeOk (GTape.mk s.2.1 s.2.2)) (fun s hs => ?_) fun J2 hJ2 => ?_
  · obtain ⟨v, b1, b2⟩ := s
    refine Ok.cs (fun hv => ?_) fun _ => hJ1 _ hs.2
    have hl := hs.1 hv
    refine Ok.bnd (next_ok hs.2 (by omega)) fun p6 h6 => ?_
    refine Ok.bnd (elO_ok h6.1.1 (h6.1.2.1 (by omega))) fun e _ => ?_
    refine Ok.bnd (next_ok h6.2 (by omega)) fun p7 h7 => ?_
    refine Ok.cs (fun _ => hJ1 _ h7.2) fun _ => ?_
    refine Ok.cs (fun _ => Ok.bnd (range_ok h7.2) fun q hq => hJ1 _ hq.2) fun _ => ?_
    refine Ok.cs (fun _ => Ok.bnd (range_ok h7.2) fun q hq => Ok.bnd (range_ok hq.2) fun r hr => hJ1 _ hr.2) fun _ => ?_
    refine Ok.cs (fun _ => Ok.bnd (range_ok h7.2) fun q hq => Ok.bnd (range_ok hq.2) fun r hr => hJ1 _ hr.2) fun _ => ?_
    exact Ok.cs (fun _ => Ok.bnd (next_ok h7.2 (by omega)) fun q hq => Ok.bnd (next_ok hq.2 (by omega)) fun r hr => hJ1 _ hr.2) fun _ => hJ1 _ h7.2
  · refine Ok.cs (fun hc => ?_) fun _ => hJ2 _ ⟨by simp, h4.2⟩
    exact Ok.bnd (next_ok h4.2 (by omega)) fun q hq => hJ2 _ ⟨fun _ => by simp at hc; omega, hq.2⟩

/-! ## the change itself -/
def normC (c : GChange) : GLink := bif decide (c.B < c.A) then GLink.mk c.B c.A c.CostB c.CostA 0 else GLink.mk c.A c.B c.CostA c.CostB 0
def thereB (t : GTopology) (c : GChange) : Bool := bsT (fun l => cmpL l (normC c)) t.Links
def atN (t : GTopology) (c : GChange) : Nat := bsR (fun l => cmpL l (normC c)) t.Links
def goneC (c : GChange) : Bool := decide (c.CostA = 0) && decide (c.CostB = 0)
/-- the place of a change in the list of links -/
theorem place_c {t : GTopology} (hv : Vt t) (c : GChange) : (∀ l ∈ t.Links.take (atN t c), ltL l (normC c) = true) ∧ (∀ l ∈ t.Links.drop (atN t c), cmpL l (normC c) ≥ 0) ∧ atN t c ≤ t.Links.length := by
  obtain ⟨h1, h2, h3⟩ := bsR_spec (f := fun l => cmpL l (normC c)) (mono_ls hv (normC c))
  refine ⟨fun l hl => ?_, fun l hl => ?_, h1⟩
  · obtain ⟨i, hi, rfl⟩ := List.getElem_of_mem hl
    rw [List.length_take] at hi
    have := h2 i (by unfold atN at hi; omega)
    rw [el_nat (by omega)] at this
    rw [List.getElem_take]
    exact cmpL_lt.1 this
  · obtain ⟨i, hi, rfl⟩ := List.getElem_of_mem hl
    rw [List.length_drop] at hi
    have := h3 (atN t c + i) (by unfold atN; omega) (by omega)
    rw [el_nat (by omega)] at this
    rw [List.getElem_drop]
    exact this
theorem there_iff {t : GTopology} (hv : Vt t) (c : GChange) : thereB t c = true ↔ ∃ l ∈ t.Links, l.A = (normC c).A ∧ l.B = (normC c).B := by
  unfold thereB
  rw [bsT_iff (f := fun l => cmpL l (normC c)) (mono_ls hv (normC c))]
  simp only [cmpL_eq]
theorem there_at {t : GTopology} {c : GChange} (h : thereB t c = true) : ∃ hl : atN t c < t.Links.length, t.Links[atN t c].A = (normC c).A ∧ t.Links[atN t c].B = (normC c).B := by
  unfold thereB bsT at h
  simp only [Bool.and_eq_true, decide_eq_true_eq] at h
  refine ⟨h.1, ?_⟩
  have := h.2
  rw [el_nat h.1, cmpL_eq] at this
  exact this
theorem norm_lt {c : GChange} (h : c.A ≠ c.B) : (normC c).A < (normC c).B := by
  unfold normC
  by_cases q : c.B < c.A
  · simp [q]
  · simp [q]; omega
theorem there_price {t : GTopology} (hv : Vt t) {c : GChange} (h : c.A ≠ c.B) : (priceT t c.A c.B).2 = thereB t c := by
  rw [price_adj, Bool.eq_iff_iff, there_iff hv, adj_iff]
  unfold normC
  by_cases q : c.B < c.A
  · simp only [q, decide_true, cond_true]
    constructor
    · rintro ⟨l, hl, h1 | h1⟩
      · have := hv.lt l hl; omega
      · exact ⟨l, hl, h1.2, h1.1⟩
    · rintro ⟨l, hl, h1⟩; exact ⟨l, hl, .inr ⟨h1.2, h1.1⟩⟩
  · simp only [q, decide_false, cond_false]
    constructor
    · rintro ⟨l, hl, h1 | h1⟩
      · exact ⟨l, hl, h1⟩
      · have := hv.lt l hl; omega
    · rintro ⟨l, hl, h1⟩; exact ⟨l, hl, .inl h1⟩
/-- the links after a change that does not remove -/
def newLs (t : GTopology) (c : GChange) : List GLink := bif thereB t c then t.Links.take (atN t c) ++ { normC c with Capacity := (el t.Links (atN t c)).Capacity } :: t.Links.drop (atN t c + 1) else t.Links.take (atN t c) ++ normC c :: t.Links.drop (atN t c)
def errC (t : GTopology) (c : GChange) : Int :=
  bif !decide (chkT t = 0) then 1 else bif !hasB t c.A || !hasB t c.B then 4 else bif decide (c.A = c.B) then 8 else bif !goneC c && (!costB c.CostA || !costB c.CostB) then 2
  else bif goneC c && !thereB t c then 9 else bif !thereB t c && decide ((t.Links.length : Int) = 60) then 3 else 0
def applyT (t : GTopology) (c : GChange) : GTopology × Int :=
  bif !decide (errC t c = 0) then (GTopology.mk [] [], errC t c) else bif goneC c then (GTopology.mk t.Routers (t.Links.take (atN t c) ++ t.Links.drop (atN t c + 1)), 0) else (GTopology.mk t.Routers (newLs t c), 0)
theorem top_Apply (t : GTopology) (c : GChange) (hl : t.Routers.length ≤ 1000000 ∧ t.Links.length ≤ 1000000) : m_topology_Apply t c = some (applyT t c) := by
  unfold m_topology_Apply applyT
  rw [top_valid, bnd_s]
  by_cases hc : ¬ chkT t = 0
  · have : errC t c = 1 := by simp [errC, hc]
    simp [hc, this]
  have hc := Classical.not_not.1 hc
  have hv := vt_iff.1 hc
  have hnr := hv.nr
  have hnl := hv.nl
  simp only [hc, decide_true, Bool.not_true, cond_false]
  have main : ∀ x : GLink, x = normC c → (bnd (m_slices_BinarySearchFunc_Lapi_Link_api_Link_api_Link t.Links (GLink.mk x.A x.B x.CostA x.CostB (0:Int)) m_topology_compare) fun (vx_2 : Int × Bool) => jn (fun (v_1 : Bool) => bif v_1 then some ((GTopology.mk [] []), (4:Int)) else bif decide (c.A = c.B) then some ((GTopology.mk [] []), (8:Int)) else jn (fun (v_2 : Bool) => bif v_2 then some ((GTopology.mk [] []), (2:Int)) else bif (((decide (c.CostA = (0:Int))) && (decide (c.CostB = (0:Int)))) && (!vx_2.2)) then some ((GTopology.mk [] []), (9:Int)) else bif ((!vx_2.2) && (decide ((t.Links.length:Int) = (60:Int)))) then some ((GTopology.mk [] []), (3:Int)) else bnd (m_slices_Clone_Lapi_Router_api_Router t.Routers) fun (vx_7 : (List GRouter)) => bnd (m_slices_Clone_Lapi_Link_api_Link t.Links) fun (vx_8 : (List GLink)) => jn (fun (m_5 : (List GLink)) => some ((GTopology.mk vx_7 m_5), (0:Int))) fun J4 => bif ((decide (c.CostA = (0:Int))) && (decide (c.CostB = (0:Int)))) then bnd (delO vx_8 vx_2.1 (w64 (vx_2.1 + (1:Int)))) fun (l_1 : List GLink) => J4 l_1 else bif vx_2.2 then bnd (elO vx_8 vx_2.1) fun (e_1 : GLink) => bnd (setO vx_8 vx_2.1 (GLink.mk x.A x.B x.CostA x.CostB e_1.Capacity)) fun (l_2 : List GLink) => J4 l_2 else bnd (insO vx_8 vx_2.1 (GLink.mk x.A x.B x.CostA x.CostB (0:Int))) fun (l_3 : List GLink) => J4 l_3) fun J3 => (bif !((decide (c.CostA = (0:Int))) && (decide (c.CostB = (0:Int)))) then bnd (m_topology_in c.CostA (1:Int) (1000:Int)) fun (vx_5 : Bool) => (bif !vx_5 then J3 true else bnd (m_topology_in c.CostB (1:Int) (1000:Int)) fun (vx_6 : Bool) => J3 (!vx_6)) else J3 false)) fun J2 => bnd (m_topology_Has t c.A) fun (vx_3 : Bool) => (bif !vx_3 then J2 true else bnd (m_topology_Has t c.B) fun (vx_4 : Bool) => J2 (!vx_4))) =
      some (bif !decide (errC t c = 0) then (GTopology.mk [] [], errC t c) else bif goneC c then (GTopology.mk t.Routers (t.Links.take (atN t c) ++ t.Links.drop (atN t c + 1)), 0) else (GTopology.mk t.Routers (newLs t c), 0)) := by
    intro x hx
    have hx0 : GLink.mk x.A x.B x.CostA x.CostB 0 = normC c := by
      rw [hx]; unfold normC; cases decide (c.B < c.A) <;> rfl
    rw [hx0, bsLk t.Links (normC c) _ (fun l => cmpL l (normC c)) hl.2 (fun l => top_compare l _), bnd_s]
    have ein : ∀ n, m_topology_in n 1 1000 = some (costB n) := fun n => rfl
    have eg : (decide (c.CostA = (0:Int)) && decide (c.CostB = (0:Int))) = goneC c := rfl
    simp only [jn, top_Has _ _ hl.1, hc, decide_true, Bool.true_and, bnd_s, ein, eg]
    show _ = some (bif !decide (errC t c = 0) then _ else _)
    have eT : bsT (fun l => cmpL l (normC c)) t.Links = thereB t c := rfl
    have eA : bsR (fun l => cmpL l (normC c)) t.Links = atN t c := rfl
    simp only [eT, eA]
    cases hA : hasB t c.A
    · simp [errC, hc, hA]
    cases hB : hasB t c.B
    · simp [errC, hc, hA, hB]
    by_cases hab : c.A = c.B
    · simp [errC, hc, hA, hB, hab]
    have cl1 : m_slices_Clone_Lapi_Router_api_Router t.Routers = some t.Routers := by
      unfold m_slices_Clone_Lapi_Router_api_Router m_slices_Clone_Lapi_Router_api_Router_l
      rw [appO_ok (by simp; omega)]; rfl
    have cl2 : m_slices_Clone_Lapi_Link_api_Link t.Links = some t.Links := by
      unfold m_slices_Clone_Lapi_Link_api_Link m_slices_Clone_Lapi_Link_api_Link_l
      rw [appO_ok (by simp; omega)]; rfl
    simp only [cl1, cl2, bnd_s, Bool.not_true, cond_false, hab, decide_false]
    have tail : (bif goneC c && !thereB t c then some (GTopology.mk [] [], (9:Int)) else bif !thereB t c && decide ((t.Links.length:Int) = 60) then some (GTopology.mk [] [], (3:Int)) else
        bif goneC c then bnd (delO t.Links (atN t c : Int) (w64 ((atN t c : Int) + 1))) fun l_1 => some (GTopology.mk t.Routers l_1, (0:Int)) else bif thereB t c then bnd (elO t.Links (atN t c : Int)) fun e_1 => bnd (setO t.Links (atN t c : Int) (GLink.mk x.A x.B x.CostA x.CostB e_1.Capacity)) fun l_2 => some (GTopology.mk t.Routers l_2, (0:Int)) else bnd (insO t.Links (atN t c : Int) (normC c)) fun l_3 => some (GTopology.mk t.Routers l_3, (0:Int))) =
        some (bif goneC c && !thereB t c then (GTopology.mk [] [], (9:Int)) else bif !thereB t c && decide ((t.Links.length:Int) = 60) then (GTopology.mk [] [], (3:Int)) else bif goneC c then (GTopology.mk t.Routers (t.Links.take (atN t c) ++ t.Links.drop (atN t c + 1)), (0:Int)) else (GTopology.mk t.Routers (newLs t c), (0:Int))) := by
      cases ht : thereB t c
      · have hle := (place_c hv c).2.2
        have hi : insO t.Links (atN t c : Int) (normC c) = some (t.Links.take (atN t c) ++ normC c :: t.Links.drop (atN t c)) := by
          unfold insO cap; rw [if_pos ⟨⟨by omega, by omega⟩, by omega⟩]; simp
        cases hg : goneC c <;> simp [newLs, ht, hi, bnd]
        cases decide ((t.Links.length : Int) = 60) <;> rfl
      · obtain ⟨hlt, _⟩ := there_at ht
        have hd : delO t.Links (atN t c : Int) (w64 ((atN t c : Int) + 1)) = some (t.Links.take (atN t c) ++ t.Links.drop (atN t c + 1)) := by
          rw [w64_id (by omega) (by omega)]
          unfold delO; rw [if_pos ⟨by omega, by omega, by omega⟩]; simp
        have he : elO t.Links (atN t c : Int) = some (el t.Links (atN t c)) := elO_el hlt
        have hs : ∀ y, setO t.Links (atN t c : Int) y = some (t.Links.take (atN t c) ++ y :: t.Links.drop (atN t c + 1)) := fun y => by
          unfold setO; rw [if_pos ⟨by omega, by omega⟩]
          simp only [Int.toNat_natCast]
          rw [List.set_eq_take_append_cons_drop, if_pos hlt]
        have hx2 : ∀ k, GLink.mk x.A x.B x.CostA x.CostB k = { normC c with Capacity := k } := fun k => by rw [← hx]
        cases hg : goneC c <;> simp [newLs, ht, hd, he, hs, bnd, hx2]
    cases hg : goneC c
    · simp only [Bool.not_false, cond_true]
      rw [hg] at tail
      cases h1 : costB c.CostA
      · simp [errC, hc, hA, hB, hab, hg, h1]
      cases h2 : costB c.CostB
      · simp [errC, hc, hA, hB, hab, hg, h1, h2]
      simp only [Bool.not_true, cond_false]
      refine tail.trans ?_
      cases ht : thereB t c <;> by_cases h60 : (t.Links.length : Int) = 60 <;> simp [errC, hc, hA, hB, hab, hg, h1, h2, ht, h60]
    · simp only [Bool.not_true, cond_false]
      rw [hg] at tail
      refine tail.trans ?_
      cases ht : thereB t c <;> by_cases h60 : (t.Links.length : Int) = 60 <;> simp [errC, hc, hA, hB, hab, hg, ht, h60]
  simp only [jn]
  by_cases hba : c.B < c.A
  · have := main (GLink.mk c.B c.A c.CostB c.CostA 0) (by simp [normC, hba])
    simp only [hba, decide_true, cond_true]
    exact this
  · have := main (GLink.mk c.A c.B c.CostA c.CostB 0) (by simp [normC, hba])
    simp only [hba, decide_false, cond_false]
    exact this

/-- what follows a place -/
theorem drop_lt {t : GTopology} (hv : Vt t) (c : GChange) : (thereB t c = false → ∀ l ∈ t.Links.drop (atN t c), ltL (normC c) l = true) ∧ (thereB t c = true → ∀ l ∈ t.Links.drop (atN t c + 1), ltL (normC c) l = true) := by
  have tot : ∀ l, cmpL l (normC c) ≥ 0 → ¬ (l.A = (normC c).A ∧ l.B = (normC c).B) → ltL (normC c) l = true := fun l h1 h2 => by
    have h3 : ¬ ltL l (normC c) = true := fun h => by have := cmpL_lt.2 h; omega
    simp [ltL] at h3 ⊢; omega
  constructor
  · intro ht l hl
    refine tot l ((place_c hv c).2.1 l hl) fun h => ?_
    have := (there_iff hv c).2 ⟨l, List.mem_of_mem_drop hl, h⟩
    rw [ht] at this; cases this
  · intro ht l hl
    obtain ⟨hlt, e1, e2⟩ := there_at ht
    have hd : t.Links.drop (atN t c) = t.Links[atN t c] :: t.Links.drop (atN t c + 1) := List.drop_eq_getElem_cons hlt
    have hp := hv.ascl
    rw [← List.take_append_drop (atN t c) t.Links, hd, List.pairwise_append, List.pairwise_cons] at hp
    have := hp.2.1.1 l hl
    simp [ltL] at this ⊢; omega
theorem el_there {t : GTopology} {c : GChange} (h : thereB t c = true) : ∃ hl : atN t c < t.Links.length, el t.Links (atN t c) = t.Links[atN t c] ∧ t.Links.drop (atN t c) = el t.Links (atN t c) :: t.Links.drop (atN t c + 1) ∧ (el t.Links (atN t c)).A = (normC c).A ∧ (el t.Links (atN t c)).B = (normC c).B := by
  obtain ⟨hl, e1, e2⟩ := there_at h
  have e := el_nat hl
  exact ⟨hl, e, by rw [e]; exact List.drop_eq_getElem_cons hl, by rw [e]; exact e1, by rw [e]; exact e2⟩
/-- the loop of the specification -/
theorem ref_loop {t : GTopology} (hv : Vt t) (c : GChange) :
    forI t.Links 0 (fun (j1 : Int) (e1 : GLink) (Z1 : (Bool × Int × (List GLink)) → Option (GTopology × Int)) (sg : Bool × Int × (List GLink)) => match sg with | (done_1, m_5, m_6) => jn (fun (sg : Bool × Int × (List GLink)) => match sg with | (done_2, m_7, m_8) => Z1 (done_2, m_7, m_8)) fun J4 => bif ((decide (e1.A = (normC c).A)) && (decide (e1.B = (normC c).B))) then bnd (appO m_6 ([(GLink.mk (normC c).A (normC c).B (normC c).CostA (normC c).CostB e1.Capacity)] : List GLink)) fun (l_1 : List GLink) => J4 (true, e1.Capacity, l_1) else jn (fun (sg : Bool × (List GLink)) => match sg with | (done_3, m_9) => bnd (appO m_9 ([e1] : List GLink)) fun (l_3 : List GLink) => J4 (done_3, m_5, l_3)) fun J5 => bif ((!done_1) && ((decide ((normC c).A < e1.A)) || ((decide ((normC c).A = e1.A)) && (decide ((normC c).B < e1.B))))) then bnd (appO m_6 ([(GLink.mk (normC c).A (normC c).B (normC c).CostA (normC c).CostB m_5)] : List GLink)) fun (l_2 : List GLink) => J5 (true, l_2) else J5 (done_1, m_6)) (fun (sg : Bool × Int × (List GLink)) => match sg with | (done_1, m_5, m_6) => jn (fun (m_10 : (List GLink)) => some ((GTopology.mk t.Routers m_10), (0:Int))) fun J6 => bif !done_1 then bnd (appO m_6 ([(GLink.mk (normC c).A (normC c).B (normC c).CostA (normC c).CostB m_5)] : List GLink)) fun (l_4 : List GLink) => J6 l_4 else J6 m_6) (false, (0:Int), []) = some (GTopology.mk t.Routers (newLs t c), 0) := by
  have hnl := hv.nl
  obtain ⟨p1, p2, p3⟩ := place_c hv c
  obtain ⟨d1, d2⟩ := drop_lt hv c
  have ec : (normC c).Capacity = 0 := by unfold normC; cases decide (c.B < c.A) <;> rfl
  conv => lhs; arg 1; rw [← List.take_append_drop (atN t c) t.Links]
  rw [forI_append]
  have hm : ∀ {l : GLink}, ltL l (normC c) = true → (decide (l.A = (normC c).A) && decide (l.B = (normC c).B)) = false ∧ (decide ((normC c).A < l.A) || (decide ((normC c).A = l.A) && decide ((normC c).B < l.B))) = false := fun {l} h => by
    constructor
    · simp [ltL] at h; simp; omega
    · simp [ltL] at h; simp; omega
  have hM : ∀ {l : GLink}, ltL (normC c) l = true → (decide (l.A = (normC c).A) && decide (l.B = (normC c).B)) = false ∧ (decide ((normC c).A < l.A) || (decide ((normC c).A = l.A) && decide ((normC c).B < l.B))) = true := fun {l} h => by
    constructor
    · simp [ltL] at h; simp; omega
    · simp [ltL] at h; simp; omega
  have hlen : ∀ q : List GLink, q.length ≤ 200 → ∀ x, appO q [x] = some (q ++ [x]) := fun q hq x => appO_ok (by simp; omega)
  rw [copy_loop (f := fun q : List GLink => (false, (0:Int), q)) (t.Links.take (atN t c)) [] 0 (fun j x q Z hx hq => by
    obtain ⟨q1, q2⟩ := hm (p1 x hx)
    have := List.length_take (i := atN t c) (l := t.Links)
    simp only [jn, q1, q2, cond_false, Bool.not_false, Bool.and_false]
    rw [hlen q (by simp at hq; omega)]; rfl)]
  simp only [List.nil_append]
  have htl : (t.Links.take (atN t c)).length ≤ 60 := by rw [List.length_take]; omega
  cases ht : thereB t c
  · have hD := d1 ht
    have hN : newLs t c = t.Links.take (atN t c) ++ normC c :: t.Links.drop (atN t c) := by simp [newLs, ht]
    have hx0 : GLink.mk (normC c).A (normC c).B (normC c).CostA (normC c).CostB 0 = normC c := by rw [← ec]
    cases hd : t.Links.drop (atN t c) with
    | nil =>
      simp only [forI, jn, Bool.not_false, cond_true]
      rw [hlen _ (by omega), bnd_s, hx0, hN, hd]
    | cons y r =>
      rw [hd] at hD
      have hrl : r.length ≤ 60 := by
        have := congrArg List.length hd
        rw [List.length_drop, List.length_cons] at this; omega
      obtain ⟨q1, q2⟩ := hM (hD y (by simp))
      simp only [forI, jn, q1, q2, cond_false, Bool.not_false, Bool.and_true, cond_true]
      rw [hlen _ (by omega), bnd_s]
      rw [hlen _ (by simp; omega), bnd_s]
      rw [copy_loop (f := fun q : List GLink => (true, (0:Int), q)) r _ _ (fun j x q Z hx hq => by
        obtain ⟨q1, q2⟩ := hM (hD x (by simp [hx]))
        simp only [jn, q1, cond_false, Bool.not_true, Bool.false_and]
        rw [hlen q (by simp at hq; omega)]; rfl)]
      simp only [jn, Bool.not_true, cond_false]
      rw [hx0, hN, hd]; simp
  · have hD := d2 ht
    obtain ⟨hl, e1, e2, e3, e4⟩ := el_there ht
    rw [e2]
    have hrl : (t.Links.drop (atN t c + 1)).length ≤ 60 := by rw [List.length_drop]; omega
    have q1 : (decide ((el t.Links (atN t c)).A = (normC c).A) && decide ((el t.Links (atN t c)).B = (normC c).B)) = true := by simp [e3, e4]
    simp only [forI, jn, q1, cond_true]
    rw [hlen _ (by omega), bnd_s]
    rw [copy_loop (f := fun q : List GLink => (true, (el t.Links (atN t c)).Capacity, q)) (t.Links.drop (atN t c + 1)) _ _ (fun j x q Z hx hq => by
      obtain ⟨q1, q2⟩ := hM (hD x hx)
      simp only [jn, q1, cond_false, Bool.not_true, Bool.false_and]
      rw [hlen q (by simp at hq; omega)]; rfl)]
    simp only [jn, Bool.not_true, cond_false]
    simp [newLs, ht]
theorem wo_del {t : GTopology} (hv : Vt t) {c : GChange} (hne : c.A ≠ c.B) (ht : thereB t c = true) : woT t (GFailure.mk [GHop.mk c.A c.B] []) = GTopology.mk t.Routers (t.Links.take (atN t c) ++ t.Links.drop (atN t c + 1)) := by
  obtain ⟨hl, e1, e2, e3, e4⟩ := el_there ht
  obtain ⟨p1, _, _⟩ := place_c hv c
  have hD := (drop_lt hv c).2 ht
  have hg : ∀ l : GLink, l.A < l.B → (goneB (GFailure.mk [GHop.mk c.A c.B] []) l = true ↔ l.A = (normC c).A ∧ l.B = (normC c).B) := fun l hlt => by
    unfold normC goneB hopB
    by_cases q : c.B < c.A
    · simp [eqGHop, q]; omega
    · simp [eqGHop, q]; omega
  unfold woT
  have hr : t.Routers.filter (fun r => !decide (r.ID ∈ (GFailure.mk [GHop.mk c.A c.B] []).Routers)) = t.Routers := by
    rw [List.filter_eq_self]; intro r _; simp
  rw [hr]
  congr 1
  conv => lhs; arg 2; rw [← List.take_append_drop (atN t c) t.Links, e2]
  have hlt : ∀ l ∈ t.Links, l.A < l.B := hv.lt
  have hin : el t.Links (atN t c) ∈ t.Links := el_mem hl
  rw [List.filter_append, List.filter_cons]
  have k1 : (t.Links.take (atN t c)).filter (fun l => !goneB (GFailure.mk [GHop.mk c.A c.B] []) l) = t.Links.take (atN t c) := by
    rw [List.filter_eq_self]
    intro l hl2
    have h1 := p1 l hl2
    have h2 := hg l (hlt l (List.mem_of_mem_take hl2))
    cases h3 : goneB (GFailure.mk [GHop.mk c.A c.B] []) l
    · rfl
    · have := h2.1 h3; simp [ltL] at h1; omega
  have k2 : (t.Links.drop (atN t c + 1)).filter (fun l => !goneB (GFailure.mk [GHop.mk c.A c.B] []) l) = t.Links.drop (atN t c + 1) := by
    rw [List.filter_eq_self]
    intro l hl2
    have h1 := hD l hl2
    have h2 := hg l (hlt l (List.mem_of_mem_drop hl2))
    cases h3 : goneB (GFailure.mk [GHop.mk c.A c.B] []) l
    · rfl
    · have := h2.1 h3; simp [ltL] at h1; omega
  have k3 := (hg _ (hlt _ hin)).2 ⟨e3, e4⟩
  rw [k1, k2, k3]; simp
theorem ref_Apply (t : GTopology) (c : GChange) : m_ref05_Apply t c = some (applyT t c) := by
  unfold m_ref05_Apply applyT
  rw [ref_check, bnd_s]
  by_cases hc : ¬ chkT t = 0
  · have : errC t c = 1 := by simp [errC, hc]
    simp [hc, this]
  have hc := Classical.not_not.1 hc
  have hv := vt_iff.1 hc
  have ein : ∀ n, m_ref05_cost n = some (costB n) := ref_cost
  have eg : (decide (c.CostA = (0:Int)) && decide (c.CostB = (0:Int))) = goneC c := rfl
  simp only [hc, decide_true, Bool.not_true, cond_false, jn, ref_has, bnd_s, ein, eg]
  cases hA : hasB t c.A
  · simp [errC, hc, hA]
  cases hB : hasB t c.B
  · simp [errC, hc, hA, hB]
  by_cases hab : c.A = c.B
  · simp [errC, hc, hA, hB, hab]
  simp only [Bool.not_true, cond_false, hab, decide_false, ref_price, bnd_s, there_price hv hab, ref_without, withoutT, if_pos hc]
  have hloop : ∀ a b d e, GLink.mk a b d e 0 = normC c → forI t.Links 0 (fun (j1 : Int) (e1 : GLink) (Z1 : (Bool × Int × (List GLink)) → Option (GTopology × Int)) (sg : Bool × Int × (List GLink)) => match sg with | (done_1, m_5, m_6) => bif ((decide (e1.A = a)) && (decide (e1.B = b))) then bnd (appO m_6 ([(GLink.mk a b d e e1.Capacity)] : List GLink)) fun (l_1 : List GLink) => Z1 (true, e1.Capacity, l_1) else bif ((!done_1) && ((decide (a < e1.A)) || ((decide (a = e1.A)) && (decide (b < e1.B))))) then bnd (appO m_6 ([(GLink.mk a b d e m_5)] : List GLink)) fun (l_2 : List GLink) => bnd (appO l_2 ([e1] : List GLink)) fun (l_3 : List GLink) => Z1 (true, m_5, l_3) else bnd (appO m_6 ([e1] : List GLink)) fun (l_3 : List GLink) => Z1 (done_1, m_5, l_3)) (fun (sg : Bool × Int × (List GLink)) => match sg with | (done_1, m_5, m_6) => bif !done_1 then bnd (appO m_6 ([(GLink.mk a b d e m_5)] : List GLink)) fun (l_4 : List GLink) => some ((GTopology.mk t.Routers l_4), (0:Int)) else some ((GTopology.mk t.Routers m_6), (0:Int))) (false, (0:Int), []) = some (GTopology.mk t.Routers (newLs t c), 0) := by
    intro a b d e h
    have h1 : (normC c).A = a := by rw [← h]
    have h2 : (normC c).B = b := by rw [← h]
    have h3 : (normC c).CostA = d := by rw [← h]
    have h4 : (normC c).CostB = e := by rw [← h]
    have := ref_loop hv c
    rw [h1, h2, h3, h4] at this
    exact this
  have tail : (bif goneC c && !thereB t c then some (GTopology.mk [] [], (9:Int)) else bif goneC c then some (woT t (GFailure.mk [GHop.mk c.A c.B] []), (0:Int)) else bif !thereB t c && decide ((t.Links.length:Int) = 60) then some (GTopology.mk [] [], (3:Int)) else some (GTopology.mk t.Routers (newLs t c), (0:Int))) =
      some (bif goneC c && !thereB t c then (GTopology.mk [] [], (9:Int)) else bif !thereB t c && decide ((t.Links.length:Int) = 60) then (GTopology.mk [] [], (3:Int)) else bif goneC c then (GTopology.mk t.Routers (t.Links.take (atN t c) ++ t.Links.drop (atN t c + 1)), (0:Int)) else (GTopology.mk t.Routers (newLs t c), (0:Int))) := by
    cases ht : thereB t c
    · cases hg : goneC c <;> simp
      cases decide ((t.Links.length : Int) = 60) <;> rfl
    · cases hg : goneC c <;> simp [wo_del hv hab ht]
  have last : (bif decide (c.B < c.A) then (bif !thereB t c && decide ((t.Links.length:Int) = 60) then some (GTopology.mk [] [], (3:Int)) else some (GTopology.mk t.Routers (newLs t c), (0:Int))) else (bif !thereB t c && decide ((t.Links.length:Int) = 60) then some (GTopology.mk [] [], (3:Int)) else some (GTopology.mk t.Routers (newLs t c), (0:Int)))) = (bif !thereB t c && decide ((t.Links.length:Int) = 60) then some (GTopology.mk [] [], (3:Int)) else some (GTopology.mk t.Routers (newLs t c), (0:Int))) := by
    cases decide (c.B < c.A) <;> rfl
  have l1 : c.B < c.A → GLink.mk c.B c.A c.CostB c.CostA 0 = normC c := fun h => by simp [normC, h]
  have l2 : ¬ c.B < c.A → GLink.mk c.A c.B c.CostA c.CostB 0 = normC c := fun h => by simp [normC, h]
  by_cases hba : c.B < c.A
  · simp only [hba, decide_true, cond_true, hloop _ _ _ _ (l1 hba)]
    cases hg : goneC c
    · rw [hg] at tail
      simp only [Bool.not_false, cond_true]
      cases h1 : costB c.CostA
      · simp [errC, hc, hA, hB, hab, hg, h1]
      cases h2 : costB c.CostB
      · simp [errC, hc, hA, hB, hab, hg, h1, h2]
      simp only [Bool.not_true, cond_false]
      refine tail.trans ?_
      cases ht : thereB t c <;> by_cases h60 : (t.Links.length : Int) = 60 <;> simp [errC, hc, hA, hB, hab, hg, h1, h2, ht, h60]
    · rw [hg] at tail
      simp only [Bool.not_true, cond_false]
      refine tail.trans ?_
      cases ht : thereB t c <;> by_cases h60 : (t.Links.length : Int) = 60 <;> simp [errC, hc, hA, hB, hab, hg, ht, h60]
  · simp only [hba, decide_false, cond_false, hloop _ _ _ _ (l2 hba)]
    cases hg : goneC c
    · rw [hg] at tail
      simp only [Bool.not_false, cond_true]
      cases h1 : costB c.CostA
      · simp [errC, hc, hA, hB, hab, hg, h1]
      cases h2 : costB c.CostB
      · simp [errC, hc, hA, hB, hab, hg, h1, h2]
      simp only [Bool.not_true, cond_false]
      refine tail.trans ?_
      cases ht : thereB t c <;> by_cases h60 : (t.Links.length : Int) = 60 <;> simp [errC, hc, hA, hB, hab, hg, h1, h2, ht, h60]
    · rw [hg] at tail
      simp only [Bool.not_true, cond_false]
      refine tail.trans ?_
      cases ht : thereB t c <;> by_cases h60 : (t.Links.length : Int) = 60 <;> simp [errC, hc, hA, hB, hab, hg, ht, h60]
end Go.Proofs.Ytckhladakpjlgaa
