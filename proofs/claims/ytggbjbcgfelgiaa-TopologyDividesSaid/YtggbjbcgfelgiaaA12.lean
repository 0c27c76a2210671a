/- The library's sort of a slice of numbers, as a contract on the store: from the contract that the shelf proves. No condition but those that stand in it. -/
import Derived.Test.YtggbjbcgfelgiaaA11
import Derived.Sort.Grow
namespace Go.Proofs.Ytggbjbcgfelgiaa
set_option linter.all false
open Go Go.Sort

abbrev SortSaid (P : Program) (f : FuncId) : Prop := ∀ (blk off cap : Nat) (zs : List Int) (w : World), Holds (Value.int .i64) w blk off zs.toArray → blk < w.heap.size → zs.length < 4611686018427387904 →
    Calls P f #[.slice (some ⟨blk, off, none⟩) zs.length cap] w fun e w' =>
      e = .returned (.tuple #[]) ∧ ∃ n os, w' = grow (putRow (Value.int .i64) (Go.Sort.ahead w n) blk off (zs.mergeSort fun x y => decide (x ≤ y)).toArray) os
def encI (n : Int) : List AV := [.int .i64 n]
def insI (x : Int) : List Int → List Int
  | [] => [x]
  | y :: r => if x ≤ y then x :: y :: r else y :: insI x r
/-- the sorted list, by insertion -/
def sortI : List Int → List Int
  | [] => []
  | x :: r => insI x (sortI r)
theorem insI_perm (x : Int) : ∀ l : List Int, (insI x l).Perm (x :: l)
  | [] => List.Perm.refl _
  | y :: r => by
    simp only [insI]
    split
    · exact List.Perm.refl _
    · exact ((insI_perm x r).cons y).trans (List.Perm.swap x y r)
theorem sortI_perm : ∀ l : List Int, (sortI l).Perm l
  | [] => List.Perm.refl _
  | x :: r => (insI_perm x (sortI r)).trans ((sortI_perm r).cons x)
theorem insI_sorted (x : Int) : ∀ l : List Int, l.Pairwise (· ≤ ·) → (insI x l).Pairwise (· ≤ ·)
  | [], _ => by simp [insI]
  | y :: r, h => by
    simp only [insI]
    rw [List.pairwise_cons] at h
    split
    · rename_i hx
      rw [List.pairwise_cons]
      refine ⟨fun z hz => ?_, List.pairwise_cons.2 h⟩
      rcases List.mem_cons.1 hz with rfl | hz
      · exact hx
      · exact Int.le_trans hx (h.1 z hz)
    · rename_i hx
      rw [List.pairwise_cons]
      refine ⟨fun z hz => ?_, insI_sorted x r h.2⟩
      rcases List.mem_cons.1 ((insI_perm x r).mem_iff.1 hz) with rfl | hz
      · omega
      · exact h.1 z hz
theorem sortI_sorted : ∀ l : List Int, (sortI l).Pairwise (· ≤ ·)
  | [] => List.Pairwise.nil
  | x :: r => insI_sorted x _ (sortI_sorted r)
theorem sorted_unique : ∀ {l l' : List Int}, l.Perm l' → l.Pairwise (· ≤ ·) → l'.Pairwise (· ≤ ·) → l = l'
  | [], l', h, _, _ => by simpa using h.symm
  | x :: r, [], h, _, _ => by simpa using h
  | x :: r, y :: s, h, h1, h2 => by
    rw [List.pairwise_cons] at h1 h2
    have hxy : x = y := by
      have a1 : x ∈ y :: s := h.mem_iff.1 (by simp)
      have a2 : y ∈ x :: r := h.mem_iff.2 (by simp)
      have b1 : y ≤ x := by
        rcases List.mem_cons.1 a1 with rfl | a1
        · exact Int.le_refl _
        · exact h2.1 x a1
      have b2 : x ≤ y := by
        rcases List.mem_cons.1 a2 with rfl | a2
        · exact Int.le_refl _
        · exact h1.1 y a2
      omega
    subst hxy
    rw [sorted_unique (List.Perm.cons_inv h) h1.2 h2.2]
theorem mergeSort_eq (zs : List Int) : (zs.mergeSort fun x y => decide (x ≤ y)) = sortI zs := by
  refine sorted_unique ((List.mergeSort_perm zs _).trans (sortI_perm zs).symm) ?_ (sortI_sorted zs)
  have := List.pairwise_mergeSort (le := fun x y : Int => decide (x ≤ y)) (fun a b c h1 h2 => by simp at h1 h2 ⊢; omega) (fun a b => by simp; omega) zs
  exact this.imp (fun h => by simpa using h)
theorem sortI_length (zs : List Int) : (sortI zs).length = zs.length := (sortI_perm zs).length_eq

theorem RepCs_ints {I : Imm} : ∀ (zs : List Int) (vs : List Value), RepCs I (zs.map encI).flatten vs ↔ vs = zs.map (Value.int .i64)
  | [], vs => by simp [RepCs]
  | z :: r, vs => by
    simp only [List.map_cons, List.flatten_cons, encI, List.singleton_append, RepCs, RepC]
    constructor
    · rintro ⟨u, us, rfl, rfl, h⟩
      rw [(RepCs_ints r us).1 h]
    · rintro rfl
      exact ⟨_, _, rfl, rfl, (RepCs_ints r _).2 rfl⟩

theorem sort_bridge {P : Program} {f : FuncId} (hs : SortSaid P f) (hn : SCalls P f [] [.nils] (fun r σ' => r = .tup [] ∧ σ' = [])) {d T : Nat} (zs : List Int) (hz : zs.length < 4611686018427387904) :
    SCalls P f [(d, .slice T 1 (zs.map encI) 0 false)] [.own d] (fun r σ' => r = .tup [] ∧ σ' = [(d, .slice T 1 ((sortI zs).map encI) 0 false)]) := by
  intro cx w I β vs hw hr
  simp only [RepL] at hr
  obtain ⟨u, us, rfl, hr, rfl⟩ := hr
  have hd : Sto.get [(d, AObj.slice T 1 (zs.map encI) 0 false)] d = some (.slice T 1 (zs.map encI) 0 false) := by rw [Sto.get_cons, if_pos rfl]
  have ho := hw.objs d _ hd
  simp only [Rep] at hr
  obtain ⟨rfl, hr⟩ := hr
  simp only [ObjRep, List.length_map] at ho
  rcases ho with q | ⟨q, q2, _⟩ | ⟨b, cap, arr, q1, q2, q3, q4, q5, q6, q7, q8, q9, q10, q11⟩
  · rw [q] at hr; simp [isSl] at hr
  · have hz0 : zs = [] := by simpa using q2
    subst hz0
    have hw0 : RelW ⟨P, 0, Sto.ids []⟩ cx I β [] w := { hw with objs := fun x o h => by simp [Sto.get] at h, sep := fun x y h => by simp [Sto.get] at h, keep := fun x h => by simp [Sto.ids] at h }
    refine Calls.mono (hn cx w I β [β d] hw0 (by simp only [RepL, Rep, RepC]; exact ⟨_, _, rfl, q, rfl⟩)) ?_
    rintro e w' ⟨v, rfl, r, σ', I', β', ⟨rfl, rfl⟩, h1, h2⟩
    refine ⟨v, rfl, .tup [], [(d, .slice T 1 [] 0 false)], I', β, ⟨rfl, by simp [sortI]⟩, ?_, ?_⟩
    · simp only [Rep, RepL] at h1 ⊢; exact h1
    · exact { h2 with
        objs := fun x o h => by
          rw [Sto.get_cons] at h
          split at h
          · rename_i e; subst e; injection h with h; subst h
            simp only [ObjRep]
            exact .inr (.inl ⟨q, trivial, trivial⟩)
          · simp [Sto.get] at h
        sep := fun x y hx hy hne b hb hb' => by
          rw [Sto.get_cons] at hx hy
          split at hx
          · rename_i e; subst e
            split at hy
            · rename_i e'; exact hne e'
            · simp [Sto.get] at hy
          · simp [Sto.get] at hx
        keep := hw.keep }
  · simp only [Nat.mul_one] at q5 q6
    have harr : arr.toList.take zs.length = zs.map (Value.int .i64) := (RepCs_ints zs _).1 q6
    have hget : ∀ j, j < zs.length → arr[j]? = some (Value.int .i64 (zs[j]?.getD default)) := fun j hj => by
      have := congrArg (·[j]?) harr
      simp only [List.getElem?_take, if_pos hj, Array.getElem?_toList, List.getElem?_map] at this
      rw [this, List.getElem?_eq_getElem hj]; rfl
    have hH : Holds (Value.int .i64) w b 0 zs.toArray := fun j hj => by
      have hj : j < zs.length := by simpa using hj
      constructor
      · simp only [World.cell?, q4, Nat.zero_add]
        rw [hget j hj]
        simp [hj]
      · simp [World.frozen?, q4]
    have hlt := lt_of_some q4
    have hc := hs b 0 cap zs w hH hlt hz
    rw [q1]
    refine Calls.mono hc ?_
    rintro e w' ⟨rfl, n, os, rfl⟩
    rw [mergeSort_eq]
    have hsl : (sortI zs).length = zs.length := sortI_length zs
    have hheap : (grow (putRow (Value.int .i64) (Go.Sort.ahead w n) b 0 (sortI zs).toArray) os).heap[b]? = some (.cells (putCells (Value.int .i64) 0 (sortI zs).toArray arr) T (0, 0)) := by
      simp only [grow, putRow, mapBlock, Go.Sort.ahead]
      rw [Array.getElem?_append_left (by simpa using hlt), Array.getElem?_modify, if_pos rfl, q4]
      rfl
    have harr' : (putCells (Value.int .i64) 0 (sortI zs).toArray arr).toList.take (sortI zs).length = (sortI zs).map (Value.int .i64) := by
      apply List.ext_getElem?
      intro j
      rw [List.getElem?_take, List.getElem?_map]
      split
      · rename_i hj
        have hj2 : j < arr.size := by omega
        rw [Array.getElem?_toList]
        simp only [putCells, Array.getElem?_mapIdx]
        rw [Array.getElem?_eq_getElem hj2]
        simp [hj]
      · rename_i hj
        rw [List.getElem?_eq_none (by omega)]; rfl
    refine ⟨.tuple #[], rfl, .tup [], _, I, β, ⟨rfl, rfl⟩, by simp only [Rep, RepL]; exact ⟨_, rfl, rfl⟩, ?_⟩
    refine RelW.turn (b := b) (d := d) hw ⟨fun k hk hlt => ?_, by simp [grow, putRow, mapBlock, Go.Sort.ahead], rfl, rfl, rfl⟩ q11 (fun x hx => ?_) (fun x hx h _ => ?_) (ImmLe.refl I) (fun _ _ _ => rfl) (fun o v hv => ?_) (fun _ _ => rfl) (.inr rfl) (HLe.refl β) (.inl (by rw [q1]; rfl)) (fun ob hob => ?_)
    · simp only [grow, putRow, mapBlock, Go.Sort.ahead]
      rw [Array.getElem?_append_left (by simpa using hlt), Array.getElem?_modify, if_neg (fun e => hk e.symm)]
    · rw [Sto.get_cons, Sto.get_cons, if_neg (Ne.symm hx), if_neg (Ne.symm hx)]
    · rw [Sto.get_cons, if_neg (Ne.symm hx)] at h; simp [Sto.get] at h
    · rw [q10 o (by omega)] at hv; cases hv
    · rw [Sto.get_cons, if_pos rfl] at hob
      injection hob with hob
      subst hob
      simp only [ObjRep, List.length_map]
      refine .inr (.inr ⟨b, cap, _, by rw [q1, hsl], by omega, q3, hheap, by simpa [putCells] using q5, ?_, ?_, by omega, ?_, ?_, q11⟩)
      · rw [Nat.mul_one]; exact (RepCs_ints _ _).2 harr'
      · intro e he; obtain ⟨x, _, rfl⟩ := List.mem_map.1 he; rfl
      · intro h; cases h
      · intro o _; exact q10 o (by omega)
end Go.Proofs.Ytggbjbcgfelgiaa
