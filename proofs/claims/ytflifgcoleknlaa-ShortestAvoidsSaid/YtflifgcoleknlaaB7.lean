/- Bound methods, and slices of what is no plain data, as the cells of an object; loops of a known number of rounds. No condition but those that stand in each. -/
import Derived.Test.YtflifgcoleknlaaBA
import Derived.LoopN
namespace Go.Proofs.Ytflifgcoleknlaa
set_option linter.all false
open Go
variable {P : Program} {tb : Tb}
/-! loops of a known number of rounds -/
def aRounds (G : Gl) (c : Code) (Q : Exit → Env → Sto → Prop) : Nat → Env → Sto → Prop
 | 0, _, _ => False
 | n + 1, env, σ => acode G c (thenA (aRounds G c Q n) Q) env σ
theorem A.rnd {G : Gl} {c : Code} {Q : Exit → Env → Sto → Prop} {n : Nat} {env : Env} {σ : Sto} (h : acode G c (thenA (aRounds G c Q n) Q) env σ) : aRounds G c Q (n + 1) env σ := h
theorem A.unroll {G : Gl} {c : Code} {Q : Exit → Env → Sto → Prop} (n : Nat) {env : Env} {σ : Sto} (h : aRounds G c Q n env σ) : acode G (.loop c) Q env σ := by
 refine acode.of fun cx a w hr => ?_
 refine wp_loop_rounds n ?_
 have key : ∀ n env σ a w, aRounds G c Q n env σ → RelA G cx env σ a w → Code.rounds G.P c (fun e a' w' => ∃ env' σ', RelA G cx env' σ' a' w' ∧ Q e env' σ') n a w := by
  intro n
  induction n with
  | zero => intro env σ a w h _; exact h.elim
  | succ n ih =>
   intro env σ a w h hr
   rw [rounds_succ]
   refine wp_mono (acode.use h cx a w hr) ?_
   rintro e a' w' ⟨env', σ', hr', hq⟩
   cases e with
   | normal => exact ih _ _ _ _ hq hr'
   | exit id => exact ⟨env', σ', hr', hq⟩
   | goto l => exact ⟨env', σ', hr', hq⟩
   | ret => exact ⟨env', σ', hr', hq⟩
   | panic ch => exact ⟨env', σ', hr', hq⟩
   | outgrown => exact ⟨env', σ', hr', hq⟩
 exact key n env σ a w h hr
end Go.Proofs.Ytflifgcoleknlaa
