/- Shifts and conversions within range; calls of a function that was handed in; stores that are only known by name. No condition. -/
import Derived.Test.YtggbjbcgfelgiaaA9
namespace Go.Proofs.Ytggbjbcgfelgiaa
set_option linter.all false
open Go

theorem SealL.refl (σ : Sto) : ∀ l : List AV, SealL σ l l
  | [] => .nil
  | x :: r => .cons (.refl x) (SealL.refl σ r)
theorem Sto.freeze_nil : ∀ σ : Sto, σ.freeze [] = σ
  | [] => rfl
  | (d, o) :: r => by simp [Sto.freeze, Sto.freeze_nil r]
theorem allIn_ids (σ : Sto) : allIn σ σ.ids = true := by
  refine List.all_eq_true.2 fun d hd => ?_
  have : ∀ l : Sto, d ∈ l.ids → (l.get d).isSome := by
    intro l
    induction l with
    | nil => intro h; simp [Sto.ids] at h
    | cons x r ih =>
      intro h
      obtain ⟨k, v⟩ := x
      rw [Sto.get_cons]
      split
      · rfl
      · rename_i hne
        refine ih ?_
        simp only [Sto.ids, List.map_cons, List.mem_cons] at h ⊢
        rcases h with h | h
        · exact absurd h.symm hne
        · exact h
  exact this σ hd
section
variable {G : Gl} {env : Env} {σ σ0 : Sto} {o : Oper} {ev : Operand → AV}
theorem ret_abs {fn : Func} {R x r : AV} (hx : ResL G env σ fn.results.toList x) (hs : Seal σ x r) (hσ : SubS σ σ0) (h : r = R) : retPost G fn (fun a σ' => a = R ∧ σ' = σ0) .ret env σ :=
  ⟨[], x, r, σ0, by rwa [Sto.freeze_nil], by rwa [Sto.freeze_nil], fun p hp => by rw [Sto.freeze_nil]; exact hσ.mem p hp, h, rfl⟩
theorem ret_abs' {fn : Func} {R x r : AV} (hx : ResL G env σ fn.results.toList x) (hs : Seal σ x r) (hσ : SubS σ σ0) (h : r = R) : retPost G fn (fun a σ' => a = R ∧ σ' = σ0) .normal env σ :=
  ⟨[], x, r, σ0, by rwa [Sto.freeze_nil], by rwa [Sto.freeze_nil], fun p hp => by rw [Sto.freeze_nil]; exact hσ.mem p hp, h, rfl⟩
theorem Z.convert {T T' : TypeId} {x : Operand} {k k' : IntKind} {n : Int} (h : o.op = .convert T T' x) (hx : ev x = .int k n) (hT : ∃ d, G.P.underlying T = some d) (hT' : G.P.underlying T' = some (.int k')) (hn : inK k' n) : Yields G o ev σ [] [] (.int k' n) := by
  have := Y.convert (G := G) (σ := σ) (ev := ev) h hx hT hT'
  rwa [show k'.wrap n = n from hn] at this
theorem Z.convertE {T T' : TypeId} {x : Operand} {k k' : IntKind} {n : Int} (m : Int) (h : o.op = .convert T T' x) (hx : ev x = .int k n) (hT : ∃ d, G.P.underlying T = some d) (hT' : G.P.underlying T' = some (.int k')) (hn : k'.wrap n = m) : Yields G o ev σ [] [] (.int k' m) := by
  have := Y.convert (G := G) (σ := σ) (ev := ev) h hx hT hT'
  rwa [hn] at this
theorem Z.shr {T T' : TypeId} {x y : Operand} {k k' : IntKind} {m n : Int} (h : o.op = .binOp .shr T x y T') (hx : ev x = .int k m) (hy : ev y = .int k' n) (hn : 0 ≤ n ∧ n < k.bits) : Yields G o ev σ [] [] (.int k (m / 2 ^ n.toNat)) := by
  have := Y.shift (G := G) (σ := σ) (ev := ev) (.inr rfl) h hx hy hn.1
  simp only at this
  rw [Nat.min_eq_left (by omega), Int.fdiv_eq_ediv_of_nonneg _ (Int.le_of_lt (Int.pow_pos (by decide)))] at this
  exact this
theorem inK_u64 {n : Int} (h1 : 0 ≤ n) (h2 : n ≤ 18446744073709551615) : inK .u64 n := by
  unfold inK; simp only [IntKind.wrap, IntKind.bits, IntKind.signed]; simp; omega
end
end Go.Proofs.Ytggbjbcgfelgiaa
