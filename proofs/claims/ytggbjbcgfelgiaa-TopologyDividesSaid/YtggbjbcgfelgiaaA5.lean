/- The rules for the single operations that only reckon, read, or make something new. No condition. -/
import Derived.Test.YtggbjbcgfelgiaaA4
import Derived.Laws.Small
import Derived.Laws.StructEq
namespace Go.Proofs.Ytggbjbcgfelgiaa
set_option linter.all false
open Go

theorem Yields.pure {G : Gl} {o : Oper} {ev : Operand → AV} {σ : Sto} {R : List Nat} {av : AV}
    (h : ∀ (σ' : Sto) (cx : Cx) (I : Imm) (β : Nat → Value) (w : World) (ρ : Operand → Value), (∀ d ∈ R, σ'.get d = σ.get d) → RelW G cx I β σ' w → (∀ x ∈ o.op.operands, Rep I β (ev x) (ρ x)) →
      ∃ v, (execOp ρ o).run G.P w = .ok (.value v) w ∧ Rep I β av v) : Yields G o ev σ [] R av := by
  intro σ' cx I β w ρ h1 h2 _ h4
  obtain ⟨v, hr, hv⟩ := h σ' cx I β w ρ h1 h2 h4
  rw [hr]
  exact ⟨I, β, hv, h2, ImmLe.refl I, fun _ _ => rfl⟩

/-- what only reads may stand in the place of what turns the store -/
theorem Does.of {G : Gl} {o : Oper} {ev : Operand → AV} {σ : Sto} {R : List Nat} {av : AV} (h : Yields G o ev σ [] R av) : Does G o ev σ [] [] (fun a σ' => a = av ∧ σ' = σ) := by
  intro cx I β w ρ hw hx
  have := h σ cx I β w ρ (fun _ _ => rfl) hw (fun d hd => by simp at hd) hx
  generalize (execOp ρ o).run G.P w = r at this
  cases r with
  | halt x w' => exact this.elim
  | ok n w' =>
    have key : ∀ v w'', (∃ I' β', Rep I' β' av v ∧ RelW G cx I' β' σ w'' ∧ ImmLe I I' ∧ (∀ d, d ∉ ([] : List Nat) → β' d = β d)) → ∃ av1 σ' I' β', (av1 = av ∧ σ' = σ) ∧ Rep I' β' av1 v ∧ RelW G cx I' β' σ' w'' ∧ ImmLe I I' ∧
        (∀ d, d ∉ ([] : List Nat) → β' d = β d) ∧ (∀ d, d ∉ ([] : List Nat) → σ'.get d = σ.get d) :=
      fun v w'' ⟨I', β', q1, q2, q3, q4⟩ => ⟨av, σ, I', β', ⟨rfl, rfl⟩, q1, q2, q3, q4, fun _ _ => rfl⟩
    cases n <;> simp only [UponV] at this ⊢
    · exact key _ _ this
    · exact key _ _ this
    · exact Calls.mono this fun _ _ ⟨v, he, hv⟩ => ⟨v, he, key _ _ hv⟩

section steps
variable {G : Gl} {ops : Array Oper} {s : Sch} {log : List (Nat × List Nat)} {i : Nat} {l : List Nat} {env : Env} {σ : Sto} {K : Env → Sto → Prop} {o : Oper} {av : AV}

theorem Want.n (hg : o.guard = none) : Want ops o env := by unfold Want; rw [hg]; trivial
theorem Want.g {j : Nat} {want p : Bool} {oj : Oper} {dj : Nat} (hg : o.guard = some (j, want)) (hj : ops[j]? = some oj) (hd : oj.dst = some dj) (he : env.get dj = .bool p) (hp : p = want) : Want ops o env := by
  unfold Want; rw [hg]; exact ⟨oj, dj, hj, hd, by rw [he, hp]⟩
theorem Skip.g {j : Nat} {want p : Bool} {oj : Oper} {dj : Nat} (hg : o.guard = some (j, want)) (hj : ops[j]? = some oj) (hd : oj.dst = some dj) (he : env.get dj = .bool p) (hp : p = !want) : Skip ops o env := by
  unfold Skip; rw [hg]; exact ⟨oj, dj, hj, hd, .inl (by rw [he, hp])⟩
theorem Skip.undef {j : Nat} {want : Bool} {oj : Oper} {dj : Nat} (hg : o.guard = some (j, want)) (hj : ops[j]? = some oj) (hd : oj.dst = some dj) (he : env.get dj = .undef) : Skip ops o env := by
  unfold Skip; rw [hg]; exact ⟨oj, dj, hj, hd, .inr he⟩

def isP (s : Sch) (i : Nat) : Bool := !(s.dr && s.es.contains i)
def isE (s : Sch) (i : Nat) : Bool := !s.dr || s.es.contains i
theorem isP_spec (h : isP s i = true) : s.dr = true → i ∉ s.es := fun hd => by simpa [isP, hd] using h
theorem isE_spec (h : isE s i = true) : s.dr = true → i ∈ s.es := fun hd => by simpa [isE, hd] using h
def allIn (σ : Sto) (R : List Nat) : Bool := R.all fun d => (σ.get d).isSome
theorem allIn_spec {R : List Nat} (h : allIn σ R = true) : ∀ d ∈ R, (σ.get d).isSome := fun d hd => List.all_eq_true.1 h d hd

theorem C.y {R : List Nat} (ho : ops[i]? = some o) (hw : Want ops o env) (hs : isP s i = true) (hR : allIn σ R = true) (hY : Yields G o env.ev σ [] R av)
    (k : Cert G ops s ((i, R) :: log) l (env.put o.dst av) σ K) : Cert G ops s log (i :: l) env σ K :=
  ⟨o, ho, .inr (.inl ⟨hw, isP_spec hs, [], R, av, σ, Virt.none G σ env, allIn_spec hR, fun d hd => by simp at hd, hY, k⟩)⟩
theorem C.skip (ho : ops[i]? = some o) (hw : Skip ops o env) (hs : isP s i = true) (k : Cert G ops s ((i, []) :: log) l (env.put o.dst .undef) σ K) : Cert G ops s log (i :: l) env σ K :=
  ⟨o, ho, .inl ⟨hw, isP_spec hs, k⟩⟩
theorem C.eskip (ho : ops[i]? = some o) (hw : Skip ops o env) (hs : isE s i = true) (k : Cert G ops s log l (env.put o.dst .undef) σ K) : Cert G ops s log (i :: l) env σ K :=
  ⟨o, ho, .inr (.inr (.inr ⟨hw, isE_spec hs, k⟩))⟩
/-- a virtual object -/
theorem C.v {d : Nat} {ob : AObj} (ho : ops[i]? = some o) (hw : Want ops o env) (hs : isP s i = true) (hi : G.ids.contains d = false) (he : env.clean [d].contains = true) (hc : σ.clean [d].contains = true)
    (hY : Yields G o env.ev ((d, ob) :: σ) [d] [d] av) (k : Cert G ops s ((i, [d]) :: log) l (env.put o.dst av) ((d, ob) :: σ) K) : Cert G ops s log (i :: l) env σ K :=
  ⟨o, ho, .inr (.inl ⟨hw, isP_spec hs, [d], [d], av, (d, ob) :: σ, ⟨fun x hx => by rw [Sto.get_cons, if_neg (fun e => hx (by simp [e]))], fun x hx => by simp at hx; subst hx; simpa using hi, he, hc⟩,
    fun x hx => by simp at hx; subst hx; simp [Sto.get_cons], fun x hx => hx, hY, k⟩)⟩
/-- something that turns the store -/
theorem C.e {M news : List Nat} {Φ : AV → Sto → Prop} (ho : ops[i]? = some o) (hw : Want ops o env) (hs : isE s i = true) (hD : Does G o env.ev σ M news Φ) (hl : (!s.dr || logOk s i M log) = true)
    (hc : env.clean news.contains = true) (hn : news.all (fun d => !G.ids.contains d && (σ.get d).isNone) = true) (k : ∀ av σ', Φ av σ' → Cert G ops s log l (env.put o.dst av) σ' K) : Cert G ops s log (i :: l) env σ K :=
  ⟨o, ho, .inr (.inr (.inl ⟨hw, isE_spec hs, M, news, Φ, hD, fun hd => by simpa [hd] using hl, hc, fun d hd => by
    have := List.all_eq_true.1 hn d hd
    simpa using this, k⟩))⟩
theorem C.ey {R : List Nat} (ho : ops[i]? = some o) (hw : Want ops o env) (hs : isE s i = true) (hY : Yields G o env.ev σ [] R av) (k : Cert G ops s log l (env.put o.dst av) σ K) : Cert G ops s log (i :: l) env σ K := by
  have nolog : ∀ log : List (Nat × List Nat), logOk s i [] log = true := by
    intro log
    induction log with
    | nil => rfl
    | cons x r ihh => obtain ⟨k, R⟩ := x; simp [logOk, ihh]
  exact C.e ho hw hs (Does.of hY) (by simp [nolog]) (Env.clean_none env) rfl (fun a σ' ⟨h1, h2⟩ => by subst h1 h2; exact k)
theorem C.nil (k : K env σ) : Cert G ops s log [] env σ K := k
/-- a case on a bool, and the rest of the region in each case -/
theorem C.split (p : Bool) (h1 : p = true → Cert G ops s log l env σ K) (h2 : p = false → Cert G ops s log l env σ K) : Cert G ops s log l env σ K := by
  cases p
  · exact h2 rfl
  · exact h1 rfl
theorem Cert.mono {K' : Env → Sto → Prop} (hk : ∀ env σ, K env σ → K' env σ) : ∀ {l : List Nat} {log : List (Nat × List Nat)} {env : Env} {σ : Sto}, Cert G ops s log l env σ K → Cert G ops s log l env σ K'
  | [], _, _, _, h => hk _ _ h
  | _ :: _, _, _, _, ⟨o, ho, h⟩ => ⟨o, ho, by
    rcases h with ⟨h1, h2, h3⟩ | ⟨h1, h2, mat, R, av, σ2, hv, hR, hM, hY, h3⟩ | ⟨h1, h2, M, news, Φ, hD, hlog, hcl, hnew, h3⟩ | ⟨h1, h2, h3⟩
    · exact .inl ⟨h1, h2, Cert.mono hk h3⟩
    · exact .inr (.inl ⟨h1, h2, mat, R, av, σ2, hv, hR, hM, hY, Cert.mono hk h3⟩)
    · exact .inr (.inr (.inl ⟨h1, h2, M, news, Φ, hD, hlog, hcl, hnew, fun a σ' hΦ => Cert.mono hk (h3 a σ' hΦ)⟩))
    · exact .inr (.inr (.inr ⟨h1, h2, Cert.mono hk h3⟩))⟩
end steps

section ops
variable {G : Gl} {o : Oper} {ev : Operand → AV} {σ : Sto}

theorem Y.move {x : Operand} (h : o.op = .move x) : Yields G o ev σ [] [] (ev x) :=
  .pure fun _ _ _ _ w ρ _ _ hx => ⟨ρ x, by simp [execOp, h], hx x (by simp [h, Op.operands])⟩
theorem Y.assign {x : Operand} (h : o.op = .assign x) : Yields G o ev σ [] [] (ev x) :=
  .pure fun _ _ _ _ w ρ _ _ hx => ⟨ρ x, by simp [execOp, h], hx x (by simp [h, Op.operands])⟩

theorem rep_bool {I : Imm} {β : Nat → Value} {b : Bool} {v : Value} (h : Rep I β (.bool b) v) : v = .bool b := by simpa [Rep, RepC] using h
theorem rep_int {I : Imm} {β : Nat → Value} {k : IntKind} {n : Int} {v : Value} (h : Rep I β (.int k n) v) : v = .int k n := by simpa [Rep, RepC] using h
theorem rep_str {I : Imm} {β : Nat → Value} {s : ByteArray} {v : Value} (h : Rep I β (.str s) v) : v = .string s := by simpa [Rep, RepC] using h

theorem Y.pick {c a b : Operand} {p : Bool} (h : o.op = .pick c a b) (hc : ev c = .bool p) : Yields G o ev σ [] [] (bif p then ev a else ev b) :=
  .pure fun _ _ I β w ρ _ _ hx => by
    have h1 := hx c (by simp [h, Op.operands]); rw [hc] at h1
    have h1 := rep_bool h1
    refine ⟨if p then ρ a else ρ b, by simp [execOp, h, h1, asBool], ?_⟩
    cases p
    · exact hx b (by simp [h, Op.operands])
    · exact hx a (by simp [h, Op.operands])
theorem Y.pickT {c a b : Operand} {p : Bool} (h : o.op = .pick c a b) (hc : ev c = .bool p) (hp : p = true) : Yields G o ev σ [] [] (ev a) := by
  have := Y.pick (G := G) (σ := σ) h hc; rw [hp] at this; exact this
theorem Y.pickF {c a b : Operand} {p : Bool} (h : o.op = .pick c a b) (hc : ev c = .bool p) (hp : p = false) : Yields G o ev σ [] [] (ev b) := by
  have := Y.pick (G := G) (σ := σ) h hc; rw [hp] at this; exact this

/-! integers -/
def inK (k : IntKind) (n : Int) : Prop := k.wrap n = n
section ints
variable {op : BinOp} {T T' : TypeId} {x y : Operand} {k : IntKind} {m n : Int}
theorem Y.int (h : o.op = .binOp op T x y T') (hx : ev x = .int k m) (hy : ev y = .int k n) {r : Value} {av : AV} (hn : op ≠ .shl ∧ op ≠ .shr)
    (hr : ∀ w, (match op with | .add | .sub | .mul => Op.intArith op k m n | .quo | .rem => Op.intDiv op k m n | .and | .or | .xor | .andNot => Op.intBits op k m n | _ => Op.intCmp op m n : Sem Value).run G.P w = .ok r w)
    (hav : ∀ I β, Rep I β av r) : Yields G o ev σ [] [] av :=
  .pure fun _ _ I β w ρ _ _ hop => by
    have h1 := hop x (by simp [h, Op.operands]); rw [hx] at h1; have h1 := rep_int h1
    have h2 := hop y (by simp [h, Op.operands]); rw [hy] at h2; have h2 := rep_int h2
    refine ⟨r, ?_, hav I β⟩
    have e1 : (eqGuard op T x y (.int k m) (.int k n)).run G.P w = .ok () w := by
      unfold eqGuard; cases op <;> rfl
    have e2 : (binOp op T (.int k m) (.int k n)).run G.P w = .ok r w := by
      rw [← hr w]
      cases op <;> first | exact absurd rfl hn.1 | exact absurd rfl hn.2 | simp [binOp]
    simp [execOp, h, h1, h2, e1, e2]
theorem Y.lss (h : o.op = .binOp .lss T x y T') (hx : ev x = .int k m) (hy : ev y = .int k n) : Yields G o ev σ [] [] (.bool (decide (m < n))) :=
  Y.int h hx hy (by decide) (fun w => rfl) (fun _ _ => by simp [Rep, RepC])
theorem Y.leq (h : o.op = .binOp .leq T x y T') (hx : ev x = .int k m) (hy : ev y = .int k n) : Yields G o ev σ [] [] (.bool (decide (m ≤ n))) :=
  Y.int h hx hy (by decide) (fun w => rfl) (fun _ _ => by simp [Rep, RepC])
theorem Y.gtr (h : o.op = .binOp .gtr T x y T') (hx : ev x = .int k m) (hy : ev y = .int k n) : Yields G o ev σ [] [] (.bool (decide (n < m))) :=
  Y.int h hx hy (by decide) (fun w => rfl) (fun _ _ => by simp [Rep, RepC])
theorem Y.geq (h : o.op = .binOp .geq T x y T') (hx : ev x = .int k m) (hy : ev y = .int k n) : Yields G o ev σ [] [] (.bool (decide (n ≤ m))) :=
  Y.int h hx hy (by decide) (fun w => rfl) (fun _ _ => by simp [Rep, RepC])
theorem Y.eql (h : o.op = .binOp .eql T x y T') (hx : ev x = .int k m) (hy : ev y = .int k n) : Yields G o ev σ [] [] (.bool (decide (m = n))) :=
  Y.int h hx hy (by decide) (fun w => rfl) (fun _ _ => by simp only [Rep, RepC, Value.bool.injEq]; rw [Bool.eq_iff_iff]; simp)
theorem Y.neq (h : o.op = .binOp .neq T x y T') (hx : ev x = .int k m) (hy : ev y = .int k n) : Yields G o ev σ [] [] (.bool (!decide (m = n))) :=
  Y.int h hx hy (by decide) (fun w => rfl) (fun _ _ => by simp only [Rep, RepC, Value.bool.injEq]; rw [Bool.eq_iff_iff]; simp)
theorem Y.add (h : o.op = .binOp .add T x y T') (hx : ev x = .int k m) (hy : ev y = .int k n) (hb : inK k (m + n)) : Yields G o ev σ [] [] (.int k (m + n)) :=
  Y.int h hx hy (by decide) (fun w => rfl) (fun _ _ => by simp only [Rep, RepC]; rw [hb])
theorem Y.sub (h : o.op = .binOp .sub T x y T') (hx : ev x = .int k m) (hy : ev y = .int k n) (hb : inK k (m - n)) : Yields G o ev σ [] [] (.int k (m - n)) :=
  Y.int h hx hy (by decide) (fun w => rfl) (fun _ _ => by simp only [Rep, RepC]; rw [hb])
theorem Y.mul (h : o.op = .binOp .mul T x y T') (hx : ev x = .int k m) (hy : ev y = .int k n) (hb : inK k (m * n)) : Yields G o ev σ [] [] (.int k (m * n)) :=
  Y.int h hx hy (by decide) (fun w => rfl) (fun _ _ => by simp only [Rep, RepC]; rw [hb])
theorem Y.addW (h : o.op = .binOp .add T x y T') (hx : ev x = .int k m) (hy : ev y = .int k n) : Yields G o ev σ [] [] (.int k (k.wrap (m + n))) :=
  Y.int h hx hy (by decide) (fun w => rfl) (fun _ _ => by simp only [Rep, RepC])
theorem Y.subW (h : o.op = .binOp .sub T x y T') (hx : ev x = .int k m) (hy : ev y = .int k n) : Yields G o ev σ [] [] (.int k (k.wrap (m - n))) :=
  Y.int h hx hy (by decide) (fun w => rfl) (fun _ _ => by simp only [Rep, RepC])
theorem Y.mulW (h : o.op = .binOp .mul T x y T') (hx : ev x = .int k m) (hy : ev y = .int k n) : Yields G o ev σ [] [] (.int k (k.wrap (m * n))) :=
  Y.int h hx hy (by decide) (fun w => rfl) (fun _ _ => by simp only [Rep, RepC])
theorem Y.rem (h : o.op = .binOp .rem T x y T') (hx : ev x = .int k m) (hy : ev y = .int k n) (hn : n ≠ 0) : Yields G o ev σ [] [] (.int k (m.tmod n)) :=
  Y.int h hx hy (by decide) (fun w => by simp [Op.intDiv, hn]; rfl) (fun _ _ => by simp only [Rep, RepC])
theorem Y.quo (h : o.op = .binOp .quo T x y T') (hx : ev x = .int k m) (hy : ev y = .int k n) (hn : n ≠ 0) (hb : inK k (m.tdiv n)) : Yields G o ev σ [] [] (.int k (m.tdiv n)) :=
  Y.int h hx hy (by decide) (fun w => by simp [Op.intDiv, hn]; rfl) (fun _ _ => by simp only [Rep, RepC]; rw [hb])
def bitsI (op : BinOp) (k : IntKind) (m n : Int) : Int :=
  let a := BitVec.ofInt k.bits m
  let b := BitVec.ofInt k.bits n
  match op with
  | .and => k.wrap (a &&& b).toNat
  | .or => k.wrap (a ||| b).toNat
  | .xor => k.wrap (a ^^^ b).toNat
  | .andNot => k.wrap (a &&& ~~~b).toNat
  | _ => 0
theorem Y.and (h : o.op = .binOp .and T x y T') (hx : ev x = .int k m) (hy : ev y = .int k n) : Yields G o ev σ [] [] (.int k (bitsI .and k m n)) :=
  Y.int h hx hy (by decide) (fun w => rfl) (fun _ _ => by simp [Rep, RepC, bitsI])
theorem Y.or (h : o.op = .binOp .or T x y T') (hx : ev x = .int k m) (hy : ev y = .int k n) : Yields G o ev σ [] [] (.int k (bitsI .or k m n)) :=
  Y.int h hx hy (by decide) (fun w => rfl) (fun _ _ => by simp [Rep, RepC, bitsI])
theorem Y.xor (h : o.op = .binOp .xor T x y T') (hx : ev x = .int k m) (hy : ev y = .int k n) : Yields G o ev σ [] [] (.int k (bitsI .xor k m n)) :=
  Y.int h hx hy (by decide) (fun w => rfl) (fun _ _ => by simp [Rep, RepC, bitsI])
theorem Y.andNot (h : o.op = .binOp .andNot T x y T') (hx : ev x = .int k m) (hy : ev y = .int k n) : Yields G o ev σ [] [] (.int k (bitsI .andNot k m n)) :=
  Y.int h hx hy (by decide) (fun w => rfl) (fun _ _ => by simp [Rep, RepC, bitsI])
theorem Y.shift {k' : IntKind} (hop : op = .shl ∨ op = .shr) (h : o.op = .binOp op T x y T') (hx : ev x = .int k m) (hy : ev y = .int k' n) (hn : 0 ≤ n) :
    Yields G o ev σ [] [] (.int k (match op with | .shl => k.wrap (m * 2 ^ min n.toNat k.bits) | _ => m.fdiv (2 ^ min n.toNat k.bits))) :=
  .pure fun _ _ I β w ρ _ _ hopd => by
    have h1 := hopd x (by simp [h, Op.operands]); rw [hx] at h1; have h1 := rep_int h1
    have h2 := hopd y (by simp [h, Op.operands]); rw [hy] at h2; have h2 := rep_int h2
    have hn' : ¬ n < 0 := by omega
    rcases hop with rfl | rfl
    · refine ⟨_, by simp [execOp, h, h1, h2, eqGuard, binOp, Op.shift, hn']; rfl, by simp [Rep, RepC]⟩
    · refine ⟨_, by simp [execOp, h, h1, h2, eqGuard, binOp, Op.shift, hn']; rfl, by simp [Rep, RepC]⟩
end ints
theorem Y.not {T : TypeId} {x : Operand} {b : Bool} (h : o.op = .unOp .not T x) (hx : ev x = .bool b) : Yields G o ev σ [] [] (.bool (!b)) :=
  .pure fun _ _ I β w ρ _ _ hop => by
    have h1 := hop x (by simp [h, Op.operands]); rw [hx] at h1; have h1 := rep_bool h1
    exact ⟨.bool (!b), by simp [execOp, h, h1, Op.unary], by simp [Rep, RepC]⟩
theorem Y.neg {T : TypeId} {x : Operand} {k : IntKind} {n : Int} (h : o.op = .unOp .neg T x) (hx : ev x = .int k n) (hb : inK k (0 - n)) : Yields G o ev σ [] [] (.int k (0 - n)) :=
  .pure fun _ _ I β w ρ _ _ hop => by
    have h1 := hop x (by simp [h, Op.operands]); rw [hx] at h1; have h1 := rep_int h1
    exact ⟨.int k (0 - n), by simp only [execOp, h, h1, Op.unary, Op.intArith]; rw [hb]; rfl, by simp [Rep, RepC]⟩
theorem Y.convert {T T' : TypeId} {x : Operand} {k k' : IntKind} {n : Int} (h : o.op = .convert T T' x) (hx : ev x = .int k n) (hT : ∃ d, G.P.underlying T = some d) (hT' : G.P.underlying T' = some (.int k')) : Yields G o ev σ [] [] (.int k' (k'.wrap n)) :=
  .pure fun _ _ I β w ρ _ _ hop => by
    have h1 := hop x (by simp [h, Op.operands]); rw [hx] at h1; have h1 := rep_int h1
    obtain ⟨d, hd⟩ := hT
    have e1 : ∀ w, (underlying T).run G.P w = .ok d w := fun w => by simp [underlying, program, Sem.run, hd]
    have e2 : ∀ w, (underlying T').run G.P w = .ok (.int k') w := fun w => by simp [underlying, program, Sem.run, hT']
    refine ⟨.int k' (k'.wrap n), ?_, by simp [Rep, RepC]⟩
    simp only [execOp, h, h1]
    unfold Go.convert
    simp only [Sem.run_bind, e1, e2, Result.andThen_ok]
    cases d <;> rfl
theorem run_eqGuard_bool {P : Program} (op : BinOp) (t : TypeId) (x y : Operand) (a b : Bool) (w : World) : (eqGuard op t x y (.bool a) (.bool b)).run P w = .ok () w := by
  unfold eqGuard; cases op <;> rfl
theorem run_binOp_eql_bool {P : Program} (T : TypeId) (a b : Bool) (w : World) (hT : P.underlying T = some .bool) : (binOp .eql T (.bool a) (.bool b)).run P w = .ok (.bool (a == b)) w := by
  show (do pure (.bool (← Op.equal T (.bool a) (.bool b))) : Sem Value).run P w = _
  rw [Sem.run_bind, run_equal_bool w T a b hT]; rfl
theorem run_binOp_neq_bool {P : Program} (T : TypeId) (a b : Bool) (w : World) (hT : P.underlying T = some .bool) : (binOp .neq T (.bool a) (.bool b)).run P w = .ok (.bool (!(a == b))) w := by
  show (do pure (.bool (!(← Op.equal T (.bool a) (.bool b)))) : Sem Value).run P w = _
  rw [Sem.run_bind, run_equal_bool w T a b hT]; rfl
theorem Y.beql {T T' : TypeId} {x y : Operand} {a b : Bool} (h : o.op = .binOp .eql T x y T') (hx : ev x = .bool a) (hy : ev y = .bool b) (hT : G.P.underlying T = some .bool) : Yields G o ev σ [] [] (.bool (a == b)) :=
  .pure fun _ _ I β w ρ _ _ hop => by
    have h1 := hop x (by simp [h, Op.operands]); rw [hx] at h1; have h1 := rep_bool h1
    have h2 := hop y (by simp [h, Op.operands]); rw [hy] at h2; have h2 := rep_bool h2
    exact ⟨.bool (a == b), by simp only [execOp, h, h1, h2, Sem.run_bind, run_eqGuard_bool, run_binOp_eql_bool T a b w hT, Result.andThen_ok, Sem.run_pure], by simp [Rep, RepC]⟩
theorem Y.bneq {T T' : TypeId} {x y : Operand} {a b : Bool} (h : o.op = .binOp .neq T x y T') (hx : ev x = .bool a) (hy : ev y = .bool b) (hT : G.P.underlying T = some .bool) : Yields G o ev σ [] [] (.bool (!(a == b))) :=
  .pure fun _ _ I β w ρ _ _ hop => by
    have h1 := hop x (by simp [h, Op.operands]); rw [hx] at h1; have h1 := rep_bool h1
    have h2 := hop y (by simp [h, Op.operands]); rw [hy] at h2; have h2 := rep_bool h2
    exact ⟨.bool (!(a == b)), by simp only [execOp, h, h1, h2, Sem.run_bind, run_eqGuard_bool, run_binOp_neq_bool T a b w hT, Result.andThen_ok, Sem.run_pure], by simp [Rep, RepC]⟩

/-! structs against structs -/
mutual
def valOf : AV → Value
  | .int k n => .int k n
  | .bool b => .bool b
  | .str s => .string s
  | .agg cs => .agg (valOfL cs).toArray
  | _ => undef
def valOfL : List AV → List Value
  | [] => []
  | x :: r => valOf x :: valOfL r
end
mutual
def AV.plain : AV → Bool
  | .int _ _ => true
  | .bool _ => true
  | .str _ => true
  | .agg cs => plainL cs
  | _ => false
def plainL : List AV → Bool
  | [] => true
  | x :: r => x.plain && plainL r
end
mutual
theorem valOf_rep {I : Imm} {β : Nat → Value} : ∀ (a : AV) (v : Value), a.plain = true → Rep I β a v → v = valOf a
  | .int k n, v, _, h => rep_int h
  | .bool b, v, _, h => rep_bool h
  | .str s, v, _, h => rep_str h
  | .agg cs, v, hp, h => by
    simp only [Rep] at h
    obtain ⟨vs, rfl, h⟩ := h
    simp only [valOf, ← valOfL_rep cs vs.toList (by simpa [AV.plain] using hp) h]
  | .junk, _, hp, _ | .undef, _, hp, _ | .lst _ _, _, hp, _ | .lptr _, _, hp, _ | .tup _, _, hp, _ | .fn _ _, _, hp, _ | .nils, _, hp, _ | .nilp, _, hp, _ | .own _, _, hp, _ | .ptr _ _, _, hp, _ | .mapv _, _, hp, _ | .cfn _ _, _, hp, _ | .sl0, _, hp, _ => by simp [AV.plain] at hp
theorem valOfL_rep {I : Imm} {β : Nat → Value} : ∀ (a : List AV) (v : List Value), plainL a = true → RepL I β a v → v = valOfL a
  | [], v, _, h => h
  | x :: r, v, hp, h => by
    simp only [RepL] at h
    simp only [plainL, Bool.and_eq_true] at hp
    obtain ⟨u, us, rfl, h1, h2⟩ := h
    simp only [valOfL, ← valOf_rep x u hp.1 h1, ← valOfL_rep r us hp.2 h2]
end
theorem Y.seql {T T' : TypeId} {x y : Operand} {a b : AV} {r : Bool} (h : o.op = .binOp .eql T x y T') (hx : ev x = a) (hy : ev y = b) (pa : a.plain = true) (pb : b.plain = true) (he : ∀ w, (do eqGuard .eql T x y (valOf a) (valOf b); binOp .eql T (valOf a) (valOf b) : Sem Value).run G.P w = .ok (.bool r) w) :
    Yields G o ev σ [] [] (.bool r) :=
  .pure fun _ _ I β w ρ _ _ hop => by
    have h1 := hop x (by simp [h, Op.operands]); rw [hx] at h1; have h1 := valOf_rep a _ pa h1
    have h2 := hop y (by simp [h, Op.operands]); rw [hy] at h2; have h2 := valOf_rep b _ pb h2
    refine ⟨.bool r, ?_, by simp [Rep, RepC]⟩
    have := he w
    simp only [execOp, h, h1, h2]
    rw [Sem.run_bind, this]
    rfl
theorem Y.sneq {T T' : TypeId} {x y : Operand} {a b : AV} {r : Bool} (h : o.op = .binOp .neq T x y T') (hx : ev x = a) (hy : ev y = b) (pa : a.plain = true) (pb : b.plain = true) (he : ∀ w, (do eqGuard .neq T x y (valOf a) (valOf b); binOp .neq T (valOf a) (valOf b) : Sem Value).run G.P w = .ok (.bool r) w) :
    Yields G o ev σ [] [] (.bool r) :=
  .pure fun _ _ I β w ρ _ _ hop => by
    have h1 := hop x (by simp [h, Op.operands]); rw [hx] at h1; have h1 := valOf_rep a _ pa h1
    have h2 := hop y (by simp [h, Op.operands]); rw [hy] at h2; have h2 := valOf_rep b _ pb h2
    refine ⟨.bool r, ?_, by simp [Rep, RepC]⟩
    have := he w
    simp only [execOp, h, h1, h2]
    rw [Sem.run_bind, this]
    rfl

/-! addresses, loads -/
structure FldS (P : Program) (T : TypeId) (f off : Nat) : Prop where
  run : ∀ (a : Addr) w, (Instr.fieldAt T (.pointer (some a)) f).run P w = .ok (.pointer (some (a.add off))) w

theorem RepRow_drop {I : Imm} {b : Nat} : ∀ (k : Nat) (cs : List AV) (o : Nat), RepRow I b cs o → RepRow I b (cs.drop k) (o + k)
  | 0, cs, o, h => by simpa using h
  | k + 1, [], o, h => by simp [RepRow]
  | k + 1, x :: r, o, h => by
    simp only [RepRow] at h
    have := RepRow_drop k r (o + 1) h.2
    simpa [show o + 1 + k = o + (k + 1) from by omega] using this
theorem Y.fieldP {T : TypeId} {x : Operand} {f off d p : Nat} (h : o.op = .fieldAddr T x f) (hx : ev x = .ptr d p) (hf : FldS G.P T f off) : Yields G o ev σ [] [] (.ptr d (p + off)) :=
  .pure fun _ _ I β w ρ _ _ hop => by
    have h1 := hop x (by simp [h, Op.operands]); rw [hx] at h1
    simp only [Rep] at h1
    obtain ⟨b, h1, h2⟩ := h1
    refine ⟨.pointer (some ⟨b, p + off, none⟩), ?_, by simp only [Rep]; exact ⟨b, h1, rfl⟩⟩
    simp [execOp, h, h2, hf.run, addr_add]
theorem Y.fieldL {T : TypeId} {x : Operand} {f off : Nat} {cs : List AV} (h : o.op = .fieldAddr T x f) (hx : ev x = .lptr cs) (hf : FldS G.P T f off) : Yields G o ev σ [] [] (.lptr (cs.drop off)) :=
  .pure fun _ _ I β w ρ _ _ hop => by
    have h1 := hop x (by simp [h, Op.operands]); rw [hx] at h1
    simp only [Rep, RepC] at h1
    obtain ⟨b, p, h1, h2⟩ := h1
    refine ⟨.pointer (some ⟨b, p + off, none⟩), ?_, by simp only [Rep, RepC]; exact ⟨b, p + off, rfl, RepRow_drop off cs p h2⟩⟩
    simp [execOp, h, h1, hf.run, addr_add]
theorem RepRow_vals {I : Imm} {b : Nat} {w : World} (hg : ∀ b o v, I b o = some v → w.cell? ⟨b, o, none⟩ = some v) : ∀ (cs : List AV) (o : Nat), RepRow I b cs o →
    ∃ vs : List Value, RepCs I cs vs ∧ ∀ j v, vs[j]? = some v → w.cell? ⟨b, o + j, none⟩ = some v
  | [], o, _ => ⟨[], rfl, fun j v h => by simp at h⟩
  | x :: r, o, h => by
    simp only [RepRow] at h
    obtain ⟨⟨u, h1, h2⟩, h3⟩ := h
    obtain ⟨vs, h4, h5⟩ := RepRow_vals hg r (o + 1) h3
    refine ⟨u :: vs, ⟨u, vs, rfl, h2, h4⟩, fun j v hv => ?_⟩
    cases j with
    | zero => simp at hv; subst hv; exact hg _ _ _ h1
    | succ j =>
      have := h5 j v (by simpa using hv)
      rwa [show o + (j + 1) = o + 1 + j from by omega]
mutual
theorem RepC.rep {I : Imm} (β : Nat → Value) : ∀ (a : AV) (v : Value), RepC I a v → Rep I β a v
  | .junk, _, _ => by simp [Rep]
  | .undef, _, h => by simpa only [Rep] using h
  | .int _ _, _, h => by simpa only [Rep] using h
  | .bool _, _, h => by simpa only [Rep] using h
  | .str _, _, h => by simpa only [Rep] using h
  | .lst _ _, _, h => by simpa only [Rep] using h
  | .lptr _, _, h => by simpa only [Rep] using h
  | .nils, _, h => by simpa only [Rep] using h
  | .nilp, _, h => by simpa only [Rep] using h
  | .cfn _ _, _, h => by simpa only [Rep] using h
  | .sl0, _, h => by simpa only [Rep] using h
  | .agg cs, v, h => by
    simp only [RepC, Rep] at h ⊢
    obtain ⟨vs, h1, h2⟩ := h
    exact ⟨vs, h1, RepCs.rep β cs _ h2⟩
  | .tup cs, v, h => by
    simp only [RepC, Rep] at h ⊢
    obtain ⟨vs, h1, h2⟩ := h
    exact ⟨vs, h1, RepCs.rep β cs _ h2⟩
  | .fn f cs, v, h => by
    simp only [RepC, Rep] at h ⊢
    obtain ⟨vs, h1, h2⟩ := h
    exact ⟨vs, h1, RepCs.rep β cs _ h2⟩
  | .own _, _, h => by simp [RepC] at h
  | .ptr _ _, _, h => by simp [RepC] at h
  | .mapv _, _, h => by simp [RepC] at h
theorem RepCs.rep {I : Imm} (β : Nat → Value) : ∀ (a : List AV) (v : List Value), RepCs I a v → RepL I β a v
  | [], _, h => h
  | x :: r, v, h => by
    simp only [RepCs, RepL] at h ⊢
    obtain ⟨u, us, h1, h2, h3⟩ := h
    exact ⟨u, us, h1, RepC.rep β x u h2, RepCs.rep β r us h3⟩
end
theorem Y.loadP {T T' : TypeId} {x : Operand} {n d p : Nat} {ag : Bool} {cs : List AV} (h : o.op = .load T x) (hx : ev x = .ptr d p) (hd : σ.get d = some (.cells T' cs)) (hT : TyS G.P T n ag) (h0 : (ag || Nat.blt 0 n) = true) (hn : Nat.ble (p + n) cs.length = true) :
    Yields G o ev σ [] [d] (ldAV ag n (cs.drop p)) :=
  .pure fun σ' cx I β w ρ hR hw hop => by
    have h1 := hop x (by simp [h, Op.operands]); rw [hx] at h1
    simp only [Rep] at h1
    obtain ⟨b, h1, h2⟩ := h1
    obtain ⟨arr, q1, q2, q3, _⟩ := hw.box (by rw [hR d (by simp)]; exact hd) h1
    obtain ⟨v, r1, r2⟩ := run_load_box hT (fun e => by subst e; simpa using h0) (off := p) q2 q3 (by simpa using hn)
    exact ⟨v, by simp [execOp, h, h2, Instr.loadAt, Instr.sureAddr, r1], r2⟩
theorem Y.loadL {T : TypeId} {x : Operand} {n : Nat} {ag : Bool} {cs : List AV} (h : o.op = .load T x) (hx : ev x = .lptr cs) (hT : TyS G.P T n ag) (h0 : (ag || Nat.blt 0 n) = true) (hn : Nat.ble n cs.length = true) :
    Yields G o ev σ [] [] (ldAV ag n cs) :=
  .pure fun σ' cx I β w ρ hR hw hop => by
    have h1 := hop x (by simp [h, Op.operands]); rw [hx] at h1
    simp only [Rep, RepC] at h1
    obtain ⟨b, p, h1, h2⟩ := h1
    obtain ⟨vs, h3, h4⟩ := RepRow_vals hw.good cs p h2
    have hl := RepCs_length _ _ h3
    have hn : n ≤ cs.length := by simpa using hn
    have hcell : ∀ j, j < n → ∃ v, vs[j]? = some v ∧ w.cell? ⟨b, p + j, none⟩ = some v := fun j hj => by
      have hj' : j < vs.length := by omega
      exact ⟨vs[j], List.getElem?_eq_getElem hj', h4 j _ (List.getElem?_eq_getElem hj')⟩
    refine ⟨_, by simp only [execOp, h, h1, Instr.loadAt, Instr.sureAddr, Sem.run_bind, Sem.run_pure, Result.andThen_ok, run_loadVar_at hT hcell (fun e => by subst e; simpa using h0)]; rfl, ?_⟩
    have hd := RepCs.rep β _ _ h3
    cases ag with
    | true =>
      simp only [ldAV, cond_true, if_true, Rep]
      exact ⟨_, rfl, by simpa using RepL_take n _ _ hd⟩
    | false =>
      simp only [ldAV, cond_false, Bool.false_eq_true, if_false]
      cases cs with
      | nil => simp [Rep]
      | cons x r =>
        simp only [RepL] at hd
        obtain ⟨u, us, e, hd, _⟩ := hd
        rw [e]
        exact hd

structure SlS (P : Program) (T E n : Nat) : Prop where
  und : P.underlying T = some (.slice E)
  size : ∀ w, (sizeOf E).run P w = .ok n w

theorem RepRows_at {I : Imm} {b sz : Nat} : ∀ (xs : List (List AV)) (o i : Nat), (∀ e ∈ xs, e.length = sz) → RepRows I b xs o → i < xs.length → RepRow I b (xs.getD i []) (o + i * sz)
  | [], _, _, _, _, h => by simp at h
  | e :: r, o, 0, _, h, _ => by simp only [RepRows] at h; simpa using h.1
  | e :: r, o, i + 1, hl, h, hi => by
    simp only [RepRows] at h
    have he := hl e (by simp)
    have := RepRows_at r (o + e.length) i (fun x hx => hl x (by simp [hx])) h.2 (by simpa using hi)
    rw [he] at this
    have e2 : o + sz + i * sz = o + (i + 1) * sz := by rw [Nat.add_mul, Nat.one_mul]; omega
    rw [e2] at this
    simpa using this
theorem Y.indexL {α : Type} [Inhabited α] {T E sz : Nat} {x y : Operand} {k : IntKind} {i : Int} {f : Bool} (rs : List α) (enc : α → List AV) (h : o.op = .indexAddr T x y) (hx : ev x = .lst f (rs.map enc)) (hy : ev y = .int k i) (hT : SlS G.P T E sz)
    (henc : ∀ r, (enc r).length = sz) (hi : 0 ≤ i ∧ i < rs.length) : Yields G o ev σ [] [] (.lptr (enc (rs.getD i.toNat default))) :=
  .pure fun σ' cx I β w ρ hR hw hop => by
    have h1 := hop x (by simp [h, Op.operands]); rw [hx] at h1
    have h2 := hop y (by simp [h, Op.operands]); rw [hy] at h2; have h2 := rep_int h2
    simp only [Rep, RepC, List.length_map] at h1
    obtain ⟨a, c, h1, h3, h4, _, h5⟩ := h1
    have hlt : i.toNat < rs.length := by omega
    rcases h5 with h5 | ⟨b, p, rfl, h5⟩
    · have : rs = [] := by simpa using h5
      subst this
      simp at hlt
    · have hrow := RepRows_at (sz := sz) _ p i.toNat (fun e he => by obtain ⟨r, _, rfl⟩ := List.mem_map.1 he; exact henc r) h5 (by simpa using hlt)
      have hget : (rs.map enc).getD i.toNat [] = enc (rs.getD i.toNat default) := by
        simp [List.getD_eq_getElem?_getD, hlt]
      rw [hget] at hrow
      refine ⟨.pointer (some ⟨b, p + i.toNat * sz, none⟩), ?_, by simp only [Rep, RepC]; exact ⟨b, _, rfl, hrow⟩⟩
      have e1 : ∀ w, (underlying T).run G.P w = .ok (.slice E) w := fun w => by simp [underlying, program, Sem.run, hT.und]
      simp [execOp, h, h1, h2, Instr.indexAt, asIntOf, e1, hi, hT.size, addr_add]

/-! builtins, tuples -/
theorem Y.lenL {α : Type} {T E : Nat} {x : Operand} {f : Bool} {rs : List α} {enc : α → List AV} {k} (h : o.op = .call ⟨.builtin .len, #[x], k⟩) (hk : k = #[T]) (hx : ev x = .lst f (rs.map enc)) (hT : G.P.underlying T = some (.slice E)) : Yields G o ev σ [] [] (.int .i64 (rs.length : Int)) :=
  .pure fun σ' cx I β w ρ hR hw hop => by
    subst hk
    have h1 := hop x (by simp [h, Op.operands, Call.operands]); rw [hx] at h1
    simp only [Rep, RepC, List.length_map] at h1
    obtain ⟨a, c, h1, _⟩ := h1
    have e1 : ∀ w, (underlying T).run G.P w = .ok (.slice E) w := fun w => by simp [underlying, program, Sem.run, hT]
    exact ⟨.int .i64 rs.length, by simp [execOp, h, resolve, invoke, builtin, Builtin.len_, h1, e1, goInt], by simp [Rep, RepC]⟩
theorem Y.lenN {T E : Nat} {x : Operand} {k} (h : o.op = .call ⟨.builtin .len, #[x], k⟩) (hk : k = #[T]) (hx : ev x = .nils) (hT : G.P.underlying T = some (.slice E)) : Yields G o ev σ [] [] (.int .i64 0) :=
  .pure fun σ' cx I β w ρ hR hw hop => by
    subst hk
    have h1 := hop x (by simp [h, Op.operands, Call.operands]); rw [hx] at h1
    simp only [Rep, RepC] at h1
    have e1 : ∀ w, (underlying T).run G.P w = .ok (.slice E) w := fun w => by simp [underlying, program, Sem.run, hT]
    exact ⟨.int .i64 0, by simp [execOp, h, resolve, invoke, builtin, Builtin.len_, h1, e1, goInt], by simp [Rep, RepC]⟩
theorem Y.lenS {T : Nat} {x : Operand} {s : ByteArray} {k} (h : o.op = .call ⟨.builtin .len, #[x], k⟩) (hk : k = #[T]) (hx : ev x = .str s) (hT : G.P.underlying T = some .string) : Yields G o ev σ [] [] (.int .i64 (s.size : Int)) :=
  .pure fun σ' cx I β w ρ hR hw hop => by
    subst hk
    have h1 := hop x (by simp [h, Op.operands, Call.operands]); rw [hx] at h1; have h1 := rep_str h1
    have e1 : ∀ w, (underlying T).run G.P w = .ok .string w := fun w => by simp [underlying, program, Sem.run, hT]
    exact ⟨.int .i64 s.size, by simp [execOp, h, resolve, invoke, builtin, Builtin.len_, h1, e1, goInt], by simp [Rep, RepC]⟩
theorem own_handle {G : Gl} {cx : Cx} {I : Imm} {β : Nat → Value} {σ : Sto} {w : World} (hw : RelW G cx I β σ w) {d : Nat} {T sz k : Nat} {fz : Bool} {xs : List (List AV)} (hd : σ.get d = some (.slice T sz xs k fz)) {v : Value} (hv : Rep I β (.own d) v) :
    ∃ a c, v = .slice a xs.length c ∧ xs.length ≤ c ∧ c ≤ maxLen := by
  simp only [Rep] at hv
  obtain ⟨rfl, hs⟩ := hv
  have := hw.objs d _ hd
  simp only [ObjRep] at this
  rcases this with h1 | ⟨h1, rfl, _⟩ | ⟨b, cap, arr, h1, h2, h3, _⟩
  · rw [h1] at hs; simp [isSl] at hs
  · exact ⟨none, 0, h1, by simp, by simp [maxLen]⟩
  · exact ⟨_, cap, h1, h2, h3⟩
theorem Y.lenO {α : Type} {T E : Nat} {x : Operand} {d T' sz n : Nat} {fz : Bool} {rs : List α} {enc : α → List AV} {k} (h : o.op = .call ⟨.builtin .len, #[x], k⟩) (hk : k = #[T]) (hx : ev x = .own d) (hd : σ.get d = some (.slice T' sz (rs.map enc) n fz)) (hT : G.P.underlying T = some (.slice E)) : Yields G o ev σ [] [d] (.int .i64 (rs.length : Int)) :=
  .pure fun σ' cx I β w ρ hR hw hop => by
    subst hk
    have h1 := hop x (by simp [h, Op.operands, Call.operands]); rw [hx] at h1
    obtain ⟨a, c, h1, _⟩ := own_handle hw (by rw [hR d (by simp)]; exact hd) h1
    have e1 : ∀ w, (underlying T).run G.P w = .ok (.slice E) w := fun w => by simp [underlying, program, Sem.run, hT]
    exact ⟨.int .i64 rs.length, by simp [execOp, h, resolve, invoke, builtin, Builtin.len_, h1, e1, goInt], by simp [Rep, RepC]⟩

theorem RepL_get {I : Imm} {β : Nat → Value} : ∀ {xs : List AV} {vs : List Value} {j : Nat} {a : AV}, RepL I β xs vs → xs[j]? = some a → ∃ v, vs[j]? = some v ∧ Rep I β a v
  | [], _, _, _, _, h => by simp at h
  | x :: r, vs, 0, a, h, hj => by
    simp only [RepL] at h
    obtain ⟨u, us, rfl, h1, _⟩ := h
    simp at hj; subst hj
    exact ⟨u, by simp, h1⟩
  | x :: r, vs, j + 1, a, h, hj => by
    simp only [RepL] at h
    obtain ⟨u, us, rfl, _, h2⟩ := h
    obtain ⟨v, h3, h4⟩ := RepL_get h2 (by simpa using hj)
    exact ⟨v, by simpa using h3, h4⟩
theorem Y.extract {x : Operand} {j : Nat} {vs : List AV} {a : AV} (h : o.op = .extract x j) (hx : ev x = .tup vs) (hj : vs[j]? = some a) : Yields G o ev σ [] [] a :=
  .pure fun σ' cx I β w ρ hR hw hop => by
    have h1 := hop x (by simp [h, Op.operands]); rw [hx] at h1
    simp only [Rep] at h1
    obtain ⟨us, h1, h2⟩ := h1
    obtain ⟨v, h3, h4⟩ := RepL_get h2 hj
    have h3 : us[j]? = some v := by simpa using h3
    exact ⟨v, by simp [execOp, h, h1, Instr.extract, h3], h4⟩
theorem Y.nilCheckP {x : Operand} {d p : Nat} (h : o.op = .nilCheck x) (hx : ev x = .ptr d p) : Yields G o ev σ [] [] (.ptr d p) :=
  .pure fun σ' cx I β w ρ hR hw hop => by
    have h1 := hop x (by simp [h, Op.operands]); rw [hx] at h1
    have h2 := h1
    simp only [Rep] at h1
    obtain ⟨b, _, h1⟩ := h1
    exact ⟨ρ x, by simp [execOp, h, h1], h2⟩
theorem Y.nilCheckL {x : Operand} {cs : List AV} (h : o.op = .nilCheck x) (hx : ev x = .lptr cs) : Yields G o ev σ [] [] (.lptr cs) :=
  .pure fun σ' cx I β w ρ hR hw hop => by
    have h1 := hop x (by simp [h, Op.operands]); rw [hx] at h1
    have h2 := h1
    simp only [Rep, RepC] at h1
    obtain ⟨b, p, h1, _⟩ := h1
    exact ⟨ρ x, by simp [execOp, h, h1], h2⟩
end ops
end Go.Proofs.Ytggbjbcgfelgiaa
