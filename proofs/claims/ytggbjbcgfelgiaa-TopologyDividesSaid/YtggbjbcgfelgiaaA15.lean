/- Structs of numbers against each other. No condition. -/
import Derived.Test.YtggbjbcgfelgiaaA14
import Derived.Laws.StructEq
namespace Go.Proofs.Ytggbjbcgfelgiaa
set_option linter.all false
open Go
section
variable {P : Program} {w : World} {d : Nat} {xs ys : Array Value} {f : Field} {fs : List Field} {T off : Nat} {r : Bool}
theorem eqF_nil : (Op.eqFields d xs ys []).run P w = .ok true w := rfl
theorem eqF_int {k k' : IntKind} {a b : Int} (hf : (f.name == "_", f.type, f.offset) = (false, T, off)) (hz : ∀ w, (isAgg T).run P w = .ok false w) (hT : P.underlying T = some (.int k')) (hx : xs[off]? = some (.int k a)) (hy : ys[off]? = some (.int k b))
    (h : (Op.eqFields (d + 1) xs ys fs).run P w = .ok r w) : (Op.eqFields (d + 1) xs ys (f :: fs)).run P w = .ok (decide (a = b) && r) w := by
  simp only [Prod.mk.injEq] at hf
  obtain ⟨h1, h2, h3⟩ := hf
  have h1 : f.name ≠ "_" := by simpa using h1
  simp only [Op.eqFields, h2, h3, if_pos h1]
  have px : (part T xs off).run P w = .ok (.int k a) w := by simp [part, hz, Array.getElem!_eq_getD, Array.getD_eq_getD_getElem?, hx]
  have py : (part T ys off).run P w = .ok (.int k b) w := by simp [part, hz, Array.getElem!_eq_getD, Array.getD_eq_getD_getElem?, hy]
  simp only [Sem.run_bind, px, py, Result.andThen_ok, run_equalIn_int w d T k k' a b hT]
  by_cases e : a = b
  · simp [e, h]
  · simp [e]
theorem eqF_bool {a b : Bool} (hf : (f.name == "_", f.type, f.offset) = (false, T, off)) (hz : ∀ w, (isAgg T).run P w = .ok false w) (hT : P.underlying T = some .bool) (hx : xs[off]? = some (.bool a)) (hy : ys[off]? = some (.bool b))
    (h : (Op.eqFields (d + 1) xs ys fs).run P w = .ok r w) : (Op.eqFields (d + 1) xs ys (f :: fs)).run P w = .ok ((a == b) && r) w := by
  simp only [Prod.mk.injEq] at hf
  obtain ⟨h1, h2, h3⟩ := hf
  have h1 : f.name ≠ "_" := by simpa using h1
  simp only [Op.eqFields, h2, h3, if_pos h1]
  have px : (part T xs off).run P w = .ok (.bool a) w := by simp [part, hz, Array.getElem!_eq_getD, Array.getD_eq_getD_getElem?, hx]
  have py : (part T ys off).run P w = .ok (.bool b) w := by simp [part, hz, Array.getElem!_eq_getD, Array.getD_eq_getD_getElem?, hy]
  simp only [Sem.run_bind, px, py, Result.andThen_ok, run_equalIn_bool' w d T a b hT]
  cases h9 : (a == b) <;> simp [h]
/-- a list of fields, laid open -/
theorem fields_cons {l : List Field} {x : Bool × Nat × Nat} {r : List (Bool × Nat × Nat)} (h : l.map (fun f => (f.name == "_", f.type, f.offset)) = x :: r) : ∃ f t, l = f :: t ∧ (f.name == "_", f.type, f.offset) = x ∧ t.map (fun f => (f.name == "_", f.type, f.offset)) = r := by
  cases l with
  | nil => simp at h
  | cons f t => simp only [List.map_cons, List.cons.injEq] at h; exact ⟨f, t, rfl, h.1, h.2⟩
theorem fields_nil {l : List Field} (h : l.map (fun f => (f.name == "_", f.type, f.offset)) = []) : l = [] := by simpa using h
theorem eqS_eql (xs ys : Array Value) (r : Bool) (x y : Operand) (hg : P.eqGuardType P.depth T = false) (hu : P.underlying T = some (.struct (P.fieldsOf T))) (hp : P.stoodInHeld T = false) (h : (Op.eqFields 9999 xs ys (P.fieldsOf T).toList).run P w = .ok r w) :
    (do eqGuard .eql T x y (.agg xs) (.agg ys); binOp .eql T (.agg xs) (.agg ys) : Sem Value).run P w = .ok (.bool r) w := by
  rw [Sem.run_bind, run_eqGuard_agg w .eql T x y _ _ hg]
  simp only [Result.andThen_ok, run_eql_struct]
  rw [run_equalIn_agg w 9999 T _ _ hu hp, h]; rfl
theorem eqS_neq (xs ys : Array Value) (r : Bool) (x y : Operand) (hg : P.eqGuardType P.depth T = false) (hu : P.underlying T = some (.struct (P.fieldsOf T))) (hp : P.stoodInHeld T = false) (h : (Op.eqFields 9999 xs ys (P.fieldsOf T).toList).run P w = .ok r w) :
    (do eqGuard .neq T x y (.agg xs) (.agg ys); binOp .neq T (.agg xs) (.agg ys) : Sem Value).run P w = .ok (.bool (!r)) w := by
  rw [Sem.run_bind, run_eqGuard_agg w .neq T x y _ _ hg]
  simp only [Result.andThen_ok, run_neq_struct]
  rw [run_equalIn_agg w 9999 T _ _ hu hp, h]; rfl
end
/-- what holds behind a weakening holds -/
theorem A.late {G : Gl} {c : Code} {Q : Exit → Env → Sto → Prop} {env : Env} {σ : Sto} (h : acode G c (fun e env σ => ∃ env2 σ2, Weak G env σ env2 σ2 ∧ Q e env2 σ2) env σ) : acode G c Q env σ := by
  refine acode.of fun cx a w hr => wp_mono (acode.use h cx a w hr) ?_
  rintro e a' w' ⟨env', σ', hr', env2, σ2, hw, hq⟩
  exact ⟨env2, σ2, hw.rel hr', hq⟩
theorem one_map {α : Type} (enc : α → List AV) (h : ∀ r, (enc r).all AV.one = true) (l : List α) : (l.map enc).flatten.all AV.one = true := by
  induction l with
  | nil => rfl
  | cons x r ih => rw [List.map_cons, List.flatten_cons, List.all_append, h x, ih]; rfl
theorem Z.slice {α : Type} {G : Gl} {o : Oper} {env : Env} {σ : Sto} {T E sz : Nat} {x : Operand} {f : Bool} {lo hi : Option Operand} (rs : List α) (enc : α → List AV) (a b : Nat) (h : o.op = .slice T x lo hi none) (hx : Seal σ (env.ev x) (.lst f (rs.map enc))) (hT : SlS G.P T E sz) (hlen : ∀ r, (enc r).length = sz)
    (hlo : loOf env.ev lo = (a : Int)) (hhi : hiOf env.ev rs.length hi = (b : Int)) (ilo : isIntO env.ev lo) (ihi : isIntO env.ev hi) (hab : a ≤ b ∧ b ≤ rs.length) (R : List Nat) (hR : ∀ σ' : Sto, (∀ d ∈ R, σ'.get d = σ.get d) → Seal σ' (env.ev x) (.lst f (rs.map enc))) :
    Yields G o env.ev σ [] R (.lst false (((rs.take b).drop a).map enc)) := by
  have hhi : hiOf env.ev (rs.map enc).length hi = (b : Int) := by rw [List.length_map]; exact hhi
  have := Y.slice (G := G) h hx hT (fun e he => by obtain ⟨r, _, rfl⟩ := List.mem_map.1 he; exact hlen r) ilo ihi (by rw [hlo, hhi, List.length_map]; omega) R hR
  rw [hlo, hhi, Int.toNat_natCast, Int.toNat_natCast] at this
  rwa [List.map_drop, List.map_take]
end Go.Proofs.Ytggbjbcgfelgiaa
