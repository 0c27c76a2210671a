/- Regions: run in the order of the text, and in whatever order they draw: one certificate serves. No condition. -/
import Derived.Test.YtggbjbcgfelgiaaA1
namespace Go.Proofs.Ytggbjbcgfelgiaa
set_option linter.all false
open Go

def RelA (G : Gl) (cx : Cx) (env : Env) (σ : Sto) (a : Act) (w : World) : Prop :=
  ∃ I β, RelW G cx I β σ w ∧ RelT I β env a ∧ a.tmps.size = G.N ∧ a.defers = []

theorem want_spec {G : Gl} {ops : Array Oper} {o : Oper} {env : Env} {a : Act} (hs : a.tmps.size = G.N) (hN : ∀ (j : Nat) (oj : Oper) (d : Nat), ops[j]? = some oj → oj.dst = some d → d < G.N)
    (hr : ∀ (j : Nat) (want : Bool), o.guard = some (j, want) → ∀ (oj : Oper) (dj : Nat), ops[j]? = some oj → oj.dst = some dj → ∀ b, (env.get dj = .bool b → a.tmps.getD dj undef = .bool b) ∧ (env.get dj = .undef → a.tmps.getD dj undef = undef)) :
    (Want ops o env → Region.wanted o (yielded ops a.tmps) = true) ∧ (Skip ops o env → Region.wanted o (yielded ops a.tmps) = false) := by
  unfold Want Skip Region.wanted
  cases hg : o.guard with
  | none => exact ⟨fun _ => rfl, fun h => h.elim⟩
  | some jw =>
    obtain ⟨j, want⟩ := jw
    have key : ∀ (oj : Oper) (dj : Nat), ops[j]? = some oj → oj.dst = some dj → ∀ v, a.tmps.getD dj undef = v → yielded ops a.tmps j = (match v with | .bool b => some b | _ => none) := by
      intro oj dj h1 h2 v hv
      have hlt := hN j oj dj h1 h2
      have : a.tmps[dj]? = some v := by
        rw [Array.getD_eq_getD_getElem?] at hv
        have h3 : dj < a.tmps.size := by omega
        rw [Array.getElem?_eq_getElem h3] at hv ⊢
        simpa using hv
      unfold yielded
      simp only [h1, Option.bind_some, h2, this]
      cases v <;> rfl
    constructor
    · rintro ⟨oj, dj, h1, h2, h3⟩
      have := (hr j want hg oj dj h1 h2 want).1 h3
      simp only [key oj dj h1 h2 _ this]
      simp
    · rintro ⟨oj, dj, h1, h2, h3⟩
      rcases h3 with h3 | h3
      · have := (hr j want hg oj dj h1 h2 (!want)).1 h3
        simp only [key oj dj h1 h2 _ this]
        cases want <;> rfl
      · have := (hr j want hg oj dj h1 h2 want).2 h3
        simp only [key oj dj h1 h2 _ this]
        rfl

theorem RelT.guard {I : Imm} {β : Nat → Value} {env : Env} {a : Act} (h : RelT I β env a) (d : Nat) (b : Bool) :
    (env.get d = .bool b → a.tmps.getD d undef = .bool b) ∧ (env.get d = .undef → a.tmps.getD d undef = undef) := by
  have := h d
  constructor <;> intro e <;> rw [e] at this <;> simpa [Rep, RepC] using this

theorem RelT.put {I : Imm} {β : Nat → Value} {env : Env} {a : Act} {av : AV} {v : Value} (h : RelT I β env a) (dst : Option Nat) (hd : ∀ d, dst = some d → d < a.tmps.size) (hv : Rep I β av v) :
    RelT I β (env.put dst av) (a.put dst v) := by
  cases dst with
  | none => exact h
  | some d =>
    intro t
    rw [tmps_put a d v t (hd d rfl)]
    simp only [Env.put, Env.get_cons]
    split
    · exact hv
    · exact h t
theorem size_put (a : Act) (dst : Option Nat) (v : Value) : (a.put dst v).tmps.size = a.tmps.size := by
  cases dst <;> simp [Act.put]
theorem defers_put (a : Act) (dst : Option Nat) (v : Value) : (a.put dst v).defers = a.defers := by
  cases dst <;> simp [Act.put]

theorem RelT.mono {I I' : Imm} {β β' : Nat → Value} {env : Env} {a : Act} (h : RelT I β env a) (hi : ImmLe I I') (hb : HLe β β') : RelT I' β' env a :=
  fun t => Rep_mono hi hb _ _ (h t)
theorem RelT.beta {I : Imm} {β β' : Nat → Value} {env : Env} {a : Act} {p : Nat → Bool} (h : RelT I β env a) (hb : ∀ d, p d = false → β' d = β d) (hc : env.clean p = true) : RelT I β' env a :=
  fun t => Rep_beta hb _ _ (Env.clean_get hc t) (h t)

/-! ### in the order of the text -/
theorem cert_seq (G : Gl) (ops : Array Oper) (s : Sch) (Q : Exit → Act → World → Prop) (hN : ∀ (j : Nat) (oj : Oper) (d : Nat), ops[j]? = some oj → oj.dst = some d → d < G.N) (K : Env → Sto → Prop) (cx : Cx)
    (hK : ∀ env σ a w, K env σ → RelA G cx env σ a w → Q .normal a w) :
    ∀ (l : List Nat) (log : List (Nat × List Nat)) (env : Env) (σ : Sto) (a : Act) (w : World), Cert G ops s log l env σ K → RelA G cx env σ a w → wpOps G.P ops Q l a w
  | [], log, env, σ, a, w, h, hr => hK _ _ _ _ h hr
  | i :: l, log, env, σ, a, w, h, hr => by
    obtain ⟨o, ho, h⟩ := h
    have hdst : ∀ d, o.dst = some d → d < a.tmps.size := fun d hd => by obtain ⟨_, _, _, _, h3, _⟩ := hr; rw [h3]; exact hN i o d ho hd
    simp only [wpOps, ho]
    obtain ⟨I, β, hw, ht, hs, hdf⟩ := hr
    have hwant := want_spec (o := o) (env := env) hs hN (fun j want _ oj dj _ _ b => ht.guard dj b)
    have skip : ∀ log, Skip ops o env → Cert G ops s log l (env.put o.dst .undef) σ K →
        if Region.wanted o (yielded ops a.tmps) = true then o.wp G.P a w (wpOps G.P ops Q l) Q ∨ o.asks G.P a w ∧ LetsOut Q else wpOps G.P ops Q l (a.put o.dst undef) w := by
      intro log hsk h
      rw [hwant.2 hsk]
      simp only [Bool.false_eq_true, if_false]
      exact cert_seq G ops s Q hN K cx hK l _ _ _ _ _ h ⟨I, β, hw, ht.put _ hdst (by simp [Rep, RepC]), by rw [size_put]; exact hs, by rw [defers_put]; exact hdf⟩
    rcases h with ⟨h1, _, h2⟩ | ⟨h1, _, mat, R, av, σ2, hv, hR, hM, hY, h2⟩ | ⟨h1, _, M, news, Φ, hD, _, hc, hnew, h2⟩ | ⟨h1, _, h2⟩
    · exact skip _ h1 h2
    · rw [hwant.1 h1]
      simp only [if_true]
      refine .inl (UponV.wp (Φ := fun v w' => ∃ I' β', Rep I' β' av v ∧ RelW G cx I' β' σ2 w' ∧ ImmLe I I' ∧ (∀ d, d ∉ mat → β' d = setH β mat d)) ?_ ?_)
      · have hw2 := hw.virt hv
        have hb : ∀ d, mat.contains d = false → setH β mat d = β d := fun d hd => by
          have : d ∉ mat := by simpa using hd
          simp [setH, this]
        exact hY σ2 cx I (setH β mat) w a.eval (fun _ _ => rfl) hw2 (fun d hd => by simp [setH, hd]) (fun x _ => (ht.beta hb hv.2.2.1).ev x)
      · rintro v w' ⟨I', β', hav, hw', hle, hbb⟩
        have hb : ∀ d, mat.contains d = false → setH β mat d = β d := fun d hd => by
          have : d ∉ mat := by simpa using hd
          simp [setH, this]
        have hh : HLe (setH β mat) β' := fun d => by
          by_cases hm : d ∈ mat
          · left; simp [setH, hm]
          · right; exact hbb d hm
        exact cert_seq G ops s Q hN K cx hK l _ _ _ _ _ h2 ⟨I', β', hw', ((ht.beta hb hv.2.2.1).mono hle hh).put _ hdst hav, by rw [size_put]; exact hs, by rw [defers_put]; exact hdf⟩
    · rw [hwant.1 h1]
      simp only [if_true]
      refine .inl (UponV.wp (hD cx I β w a.eval hw (fun x _ => ht.ev x)) ?_)
      rintro v w' ⟨av, σ', I', β', hΦ, hav, hw', hle, hbb, _⟩
      have ht' : RelT I' β' env a := (ht.beta (p := news.contains) (fun d hd => hbb d (by simpa using hd)) hc).mono hle (HLe.refl _)
      exact cert_seq G ops s Q hN K cx hK l _ _ _ _ _ (h2 av σ' hΦ) ⟨I', β', hw', ht'.put _ hdst hav, by rw [size_put]; exact hs, by rw [defers_put]; exact hdf⟩
    · exact skip _ h1 h2

def dstOk (N : Nat) (ops : Array Oper) : Bool := ops.toList.all fun o => match o.dst with | some d => Nat.blt d N | none => true
theorem dstOk_spec {N : Nat} {ops : Array Oper} (h : dstOk N ops = true) : ∀ (j : Nat) (oj : Oper) (d : Nat), ops[j]? = some oj → oj.dst = some d → d < N := by
  intro j oj d hj hd
  have hm : oj ∈ ops.toList := by simpa using Array.mem_of_getElem? hj
  have := List.all_eq_true.1 h oj hm
  simp only [hd] at this
  exact (Iff.of_eq Nat.blt_eq).1 this

/-! ### in whatever order -/
def looks (ops : Array Oper) (o : Oper) (t : Nat) : Bool := (o.looksAt ops).contains t
def depOk (s : Sch) (i j : Nat) (oi oj : Oper) (ops : Array Oper) : Bool :=
  match oi.dst with
  | none => true
  | some t =>
    (i == j && (s.es.contains i || !looks ops oj t)) ||
    (!(i == j) && (!(looks ops oj t) || (s.T.getD j []).contains i || (s.es.contains i && (s.T.getD i []).contains j)) &&
     (!(oj.dst == some t) || (s.es.contains i && s.es.contains j && ((s.T.getD j []).contains i || (s.T.getD i []).contains j))))
def orderOk (s : Sch) : List Nat → Bool
  | [] => true
  | i :: l => l.all (fun j => !(s.T.getD i []).contains j && !(i == j) && (!s.es.contains i || (s.T.getD j []).contains i)) && orderOk s l
def tabOk (ops : Array Oper) (T : List (List Nat)) : Bool :=
  (List.range ops.size).all fun j => match ops[j]? with
    | none => false
    | some oj => oj.after.toList.all (fun e => !Region.binds .any e || Nat.blt e.on j) &&
        (T.getD j []).all fun i => oj.after.toList.any fun e => Region.binds .any e && (e.on == i || (T.getD e.on []).contains i)
def schOk (N : Nat) (ops : Array Oper) (s : Sch) (l : List Nat) : Bool :=
  dstOk N ops && tabOk ops s.T && orderOk s l && (List.range ops.size).all (fun i => l.contains i) && l.all (fun i => Nat.blt i ops.size) && (s.T.length == ops.size) &&
  (List.range ops.size).all fun i => (List.range ops.size).all fun j => match ops[i]?, ops[j]? with
    | some oi, some oj => depOk s i j oi oj ops
    | _, _ => true

section any
variable {G : Gl} {ops : Array Oper} {s : Sch}

structure Stat (G : Gl) (ops : Array Oper) (s : Sch) : Prop where
  dst : ∀ (j : Nat) (oj : Oper) (d : Nat), ops[j]? = some oj → oj.dst = some d → d < G.N
  down : ∀ (j : Nat) (oj : Oper), ops[j]? = some oj → ∀ e ∈ oj.after, Region.binds .any e = true → e.on < j
  tab : ∀ (j : Nat) (oj : Oper), ops[j]? = some oj → ∀ i ∈ s.T.getD j [], ∃ e ∈ oj.after, Region.binds .any e = true ∧ (e.on = i ∨ i ∈ s.T.getD e.on [])
  size : s.T.length = ops.size
  read : ∀ (i j : Nat) (oi oj : Oper) (t : Nat), ops[i]? = some oi → ops[j]? = some oj → oi.dst = some t → i ≠ j → looks ops oj t = true → i ∈ s.T.getD j [] ∨ (i ∈ s.es ∧ j ∈ s.T.getD i [])
  self : ∀ (j : Nat) (oj : Oper) (t : Nat), ops[j]? = some oj → oj.dst = some t → j ∉ s.es → looks ops oj t = false
  one : ∀ (i j : Nat) (oi oj : Oper) (t : Nat), ops[i]? = some oi → ops[j]? = some oj → oi.dst = some t → oj.dst = some t → i ≠ j → i ∈ s.es ∧ j ∈ s.es

theorem Stat.of {l : List Nat} (h : schOk G.N ops s l = true) : Stat G ops s ∧ orderOk s l = true ∧ (∀ i, i < ops.size ↔ i ∈ l) := by
  simp only [schOk, Bool.and_eq_true, List.all_eq_true, List.mem_range, beq_iff_eq] at h
  obtain ⟨⟨⟨⟨⟨⟨h1, h2⟩, h3⟩, h4⟩, h5⟩, h6⟩, h7⟩ := h
  refine ⟨{ dst := dstOk_spec h1, down := ?_, tab := ?_, size := h6, read := ?_, self := ?_, one := ?_ }, h3, fun i => ⟨fun hi => by simpa using h4 i hi, fun hi => (Iff.of_eq Nat.blt_eq).1 (h5 i hi)⟩⟩
  · intro j oj hj e he hb
    have hjs : j < ops.size := (Array.getElem?_eq_some_iff.1 hj).1
    simp only [tabOk, List.all_eq_true, List.mem_range] at h2
    have := h2 j hjs
    simp only [hj, Bool.and_eq_true, List.all_eq_true] at this
    have := this.1 e (by simpa using he)
    simp only [hb, Bool.not_true, Bool.false_or] at this
    exact (Iff.of_eq Nat.blt_eq).1 this
  · intro j oj hj i hi
    have hjs : j < ops.size := (Array.getElem?_eq_some_iff.1 hj).1
    simp only [tabOk, List.all_eq_true, List.mem_range] at h2
    have := h2 j hjs
    simp only [hj, Bool.and_eq_true, List.all_eq_true] at this
    have := this.2 i hi
    simp only [List.any_eq_true, Bool.and_eq_true, Bool.or_eq_true, beq_iff_eq] at this
    obtain ⟨e, he, hb, hh⟩ := this
    exact ⟨e, by simpa using he, hb, by simpa using hh⟩
  · intro i j oi oj t hi hj hd hne hl
    have := h7 i (Array.getElem?_eq_some_iff.1 hi).1 j (Array.getElem?_eq_some_iff.1 hj).1
    have hb : (i == j) = false := by simpa using hne
    simp only [hi, hj, depOk, hd, hb, hl, Bool.not_true, Bool.not_false, Bool.true_and, Bool.false_and, Bool.false_or, Bool.or_eq_true, Bool.and_eq_true, false_or] at this
    have := this.1
    simpa using this
  · intro j oj t hj hd hes
    have := h7 j (Array.getElem?_eq_some_iff.1 hj).1 j (Array.getElem?_eq_some_iff.1 hj).1
    simp only [hj, depOk, hd, BEq.rfl, Bool.true_and, Bool.not_true, Bool.false_and, Bool.or_false, Bool.or_eq_true, List.contains_iff_mem, hes, false_or, Bool.not_eq_true'] at this
    exact this
  · intro i j oi oj t hi hj hd hd' hne
    have := h7 i (Array.getElem?_eq_some_iff.1 hi).1 j (Array.getElem?_eq_some_iff.1 hj).1
    have hb : (i == j) = false := by simpa using hne
    simp only [hi, hj, depOk, hd, hd', hb, Bool.not_false, Bool.true_and, Bool.false_and, Bool.false_or, Bool.or_eq_true, Bool.and_eq_true, false_or, BEq.rfl, Bool.not_true, Bool.false_eq_true] at this
    have := this.2
    simp only [List.contains_iff_mem] at this
    exact ⟨this.1.1, this.1.2⟩

/-- what is known of an operation that is done in the certificate and has not come up yet -/
def Pend (G : Gl) (ops : Array Oper) (s : Sch) (env : Env) (σ : Sto) (β : Nat → Value) (log : List (Nat × List Nat)) (i : Nat) (mat : List Nat) : Prop :=
  ∃ o av, ops[i]? = some o ∧ i ∉ s.es ∧ (∀ t, o.dst = some t → env.get t = av) ∧
    ((Skip ops o env ∧ av = .undef ∧ mat = []) ∨
     (Want ops o env ∧ ∃ R, Yields G o env.ev σ mat R av ∧ (i, R) ∈ log ∧ (∀ d ∈ R, (σ.get d).isSome) ∧ (∀ d ∈ mat, d ∈ R ∧ β d = .nilFunc ∧ d ∉ G.ids)))

/-- the slots of what has not come up are out of the relation -/
def RelP (I : Imm) (β : Nat → Value) (ops : Array Oper) (pend : List Nat) (env : Env) (a : Act) : Prop :=
  ∀ t, (∀ i ∈ pend, ∀ o, ops[i]? = some o → o.dst ≠ some t) → Rep I β (env.get t) (a.tmps.getD t undef)

theorem ready_mem {listed : Array Bool} {j : Nat} : j ∈ Region.ready .any ops listed ↔
    listed.getD j true = false ∧ ∃ o, ops[j]? = some o ∧ ∀ e ∈ o.after, Region.binds .any e = true → listed.getD e.on false = true := mem_ready

theorem getD_tf {listed : Array Bool} {i : Nat} (hi : i < listed.size) (b c : Bool) : listed.getD i b = listed.getD i c := by
  simp [Array.getD_eq_getD_getElem?, hi]

/-- what a ready operation waits for has come up -/
theorem waits_listed (st : Stat G ops s) {listed : Array Bool} (hsz : listed.size = ops.size)
    (hcl : ∀ j, listed.getD j false = true → ∀ i ∈ s.T.getD j [], listed.getD i false = true) {j : Nat} (hj : j ∈ Region.ready .any ops listed) :
    ∀ i ∈ s.T.getD j [], listed.getD i false = true := by
  obtain ⟨_, o, ho, hall⟩ := ready_mem.1 hj
  intro i hi
  obtain ⟨e, he, hb, h⟩ := st.tab j o ho i hi
  rcases h with h | h
  · rw [← h]; exact hall e he hb
  · exact hcl e.on (hall e he hb) i h

theorem ready_exists (st : Stat G ops s) {listed : Array Bool} (hsz : listed.size = ops.size) : ∀ (n j : Nat), j ≤ n → j < ops.size → listed.getD j true = false → Region.ready .any ops listed ≠ [] := by
  intro n
  induction n with
  | zero =>
    intro j hj hlt hun
    have : j ∈ Region.ready .any ops listed := ready_mem.2 ⟨hun, ops[j], Array.getElem?_eq_getElem hlt, fun e he hb => by
      have := st.down j _ (Array.getElem?_eq_getElem hlt) e he hb
      omega⟩
    exact List.ne_nil_of_mem this
  | succ n ih =>
    intro j hj hlt hun
    by_cases hex : ∃ i, i < j ∧ listed.getD i true = false
    · obtain ⟨i, h1, h2⟩ := hex
      exact ih i (by omega) (by omega) h2
    · have : j ∈ Region.ready .any ops listed := ready_mem.2 ⟨hun, ops[j], Array.getElem?_eq_getElem hlt, fun e he hb => by
        have hd := st.down j _ (Array.getElem?_eq_getElem hlt) e he hb
        have : ¬ listed.getD e.on true = false := fun hh => hex ⟨e.on, hd, hh⟩
        rw [getD_tf (by omega) false true]
        simpa using this⟩
      exact List.ne_nil_of_mem this

theorem Env.ev_put_ne {env : Env} {dst : Option Nat} {av : AV} {x : Operand} (h : ∀ t, dst = some t → x ≠ .tmp t) : (env.put dst av).ev x = env.ev x := by
  cases dst with
  | none => rfl
  | some d =>
    cases x with
    | tmp t => simp only [Env.put, Env.ev, Env.get_cons]; rw [if_neg (fun e => h d rfl (by rw [e]))]
    | _ => rfl
theorem Env.get_put_ne {env : Env} {dst : Option Nat} {av : AV} {t : Nat} (h : dst ≠ some t) : (env.put dst av).get t = env.get t := by
  cases dst with
  | none => rfl
  | some d => simp only [Env.put, Env.get_cons]; rw [if_neg (fun e => h (by rw [e]))]
theorem looks_op {o : Oper} {t : Nat} (h : (Operand.tmp t) ∈ o.op.operands) : looks ops o t = true := by
  simp only [looks, List.contains_iff_mem, Oper.looksAt]
  exact List.mem_append_left _ (List.mem_filterMap.2 ⟨.tmp t, by simpa using h, rfl⟩)
theorem looks_guard {o oj : Oper} {j : Nat} {want : Bool} {t : Nat} (hg : o.guard = some (j, want)) (hj : ops[j]? = some oj) (ht : oj.dst = some t) : looks ops o t = true := by
  simp [looks, Oper.looksAt, hg, hj, ht]

theorem Yields.ev {o : Oper} {ev ev' : Operand → AV} {σ : Sto} {mat R : List Nat} {av : AV} (h : ∀ x ∈ o.op.operands, ev' x = ev x) (hy : Yields G o ev σ mat R av) : Yields G o ev' σ mat R av :=
  fun σ' cx I β w ρ h1 h2 h3 h4 => hy σ' cx I β w ρ h1 h2 h3 (fun x hx => by rw [← h x hx]; exact h4 x hx)
theorem Yields.sto {o : Oper} {ev : Operand → AV} {σ σ2 : Sto} {mat R : List Nat} {av : AV} (h : ∀ d ∈ R, σ2.get d = σ.get d) (hy : Yields G o ev σ mat R av) : Yields G o ev σ2 mat R av :=
  fun σ' cx I β w ρ h1 h2 h3 h4 => hy σ' cx I β w ρ (fun d hd => (h1 d hd).trans (h d hd)) h2 h3 h4
theorem Want.put {o : Oper} {env : Env} {dst : Option Nat} {av : AV} (h : ∀ t, dst = some t → looks ops o t = false) : (Want ops o env → Want ops o (env.put dst av)) ∧ (Skip ops o env → Skip ops o (env.put dst av)) := by
  unfold Want Skip
  cases hg : o.guard with
  | none => exact ⟨id, id⟩
  | some jw =>
    obtain ⟨j, want⟩ := jw
    constructor <;> (rintro ⟨oj, dj, h1, h2, h3⟩; refine ⟨oj, dj, h1, h2, ?_⟩; rw [Env.get_put_ne (fun e => by have := h dj e; rw [looks_guard hg h1 h2] at this; cases this)]; exact h3)

/-- a pending operation is none the worse for a later one's slot, for more log -/
theorem Pend.put {env : Env} {σ σ2 : Sto} {β β2 : Nat → Value} {log log2 : List (Nat × List Nat)} {i : Nat} {mat : List Nat} {dst : Option Nat} {av : AV} (h : Pend G ops s env σ β log i mat)
    (hd : ∀ o, ops[i]? = some o → ∀ t, dst = some t → looks ops o t = false ∧ o.dst ≠ some t)
    (hlog : ∀ x ∈ log, x ∈ log2) (hR : ∀ R, (i, R) ∈ log → ∀ d ∈ R, (σ.get d).isSome → σ2.get d = σ.get d) (hm : ∀ d ∈ mat, (σ.get d).isSome → β d = .nilFunc → β2 d = .nilFunc) :
    Pend G ops s (env.put dst av) σ2 β2 log2 i mat := by
  obtain ⟨o, av', ho, hes, hav, h⟩ := h
  refine ⟨o, av', ho, hes, fun t ht => ?_, ?_⟩
  · rw [Env.get_put_ne (fun e => (hd o ho t e).2 ht)]; exact hav t ht
  · have hl : ∀ t, dst = some t → looks ops o t = false := fun t e => (hd o ho t e).1
    rcases h with ⟨h1, h2⟩ | ⟨h1, R, hY, hl', hRs, hms⟩
    · exact .inl ⟨(Want.put hl).2 h1, h2⟩
    · refine .inr ⟨(Want.put hl).1 h1, R, ?_, hlog _ hl', fun d hd' => ?_, fun d hd' => ?_⟩
      · refine (hY.ev fun x hx => ?_).sto (fun d hd' => hR R hl' d hd' (hRs d hd'))
        exact Env.ev_put_ne fun t e hxt => by have := hl t e; rw [looks_op (hxt ▸ hx)] at this; cases this
      · rw [hR R hl' d hd' (hRs d hd')]; exact hRs d hd'
      · obtain ⟨q1, q2, q3⟩ := hms d hd'
        exact ⟨q1, hm d hd' (hRs d q1) q2, q3⟩

theorem RelP.ev {I : Imm} {β : Nat → Value} {pend : List Nat} {env : Env} {a : Act} (h : RelP I β ops pend env a) {o : Oper}
    (hp : ∀ i ∈ pend, ∀ oi, ops[i]? = some oi → ∀ t, oi.dst = some t → looks ops o t = false) : ∀ x ∈ o.op.operands, Rep I β (env.ev x) (a.eval x) := by
  intro x hx
  cases x with
  | tmp t =>
    refine h t fun i hi oi hoi hd => ?_
    have := hp i hi oi hoi t hd
    rw [looks_op hx] at this
    cases this
  | const v => exact avOf_rep I β v
  | global g => simp [Env.ev, Rep]
  | func f => simp [Env.ev, Act.eval, Rep, RepL]

theorem RelP.want {I : Imm} {β : Nat → Value} {pend : List Nat} {env : Env} {a : Act} (st : Stat G ops s) (hs : a.tmps.size = G.N) (h : RelP I β ops pend env a) {o : Oper}
    (hp : ∀ i ∈ pend, ∀ oi, ops[i]? = some oi → ∀ t, oi.dst = some t → looks ops o t = false) :
    (Want ops o env → Region.wanted o (yielded ops a.tmps) = true) ∧ (Skip ops o env → Region.wanted o (yielded ops a.tmps) = false) := by
  refine want_spec hs st.dst fun j want hg oj dj h1 h2 b => ?_
  have := h dj fun i hi oi hoi hd => by
    have := hp i hi oi hoi dj hd
    rw [looks_guard hg h1 h2] at this
    cases this
  constructor <;> intro e <;> rw [e] at this <;> simpa [Rep, RepC] using this

theorem RelP.mono {I I' : Imm} {β β' : Nat → Value} {pend : List Nat} {env : Env} {a : Act} (h : RelP I β ops pend env a) (hi : ImmLe I I') (hb : HLe β β') : RelP I' β' ops pend env a :=
  fun t ht => Rep_mono hi hb _ _ (h t ht)
theorem RelP.beta {I : Imm} {β β' : Nat → Value} {p : Nat → Bool} {pend : List Nat} {env : Env} {a : Act} (h : RelP I β ops pend env a) (hb : ∀ d, p d = false → β' d = β d) (hc : env.clean p = true) : RelP I β' ops pend env a :=
  fun t ht => Rep_beta hb _ _ (Env.clean_get hc t) (h t ht)

theorem logOk_spec {e : Nat} {M : List Nat} : ∀ {log : List (Nat × List Nat)}, logOk s e M log = true → ∀ i R, (i, R) ∈ log → i ∈ s.T.getD e [] ∨ ∀ d ∈ R, d ∉ M
  | [], _, _, _, hm => by simp at hm
  | (k, S) :: r, h, i, R, hm => by
    simp only [logOk, Bool.and_eq_true, Bool.or_eq_true, List.contains_iff_mem, List.all_eq_true] at h
    rcases List.mem_cons.1 hm with e | hm
    · cases e
      rcases h.1 with h1 | h1
      · exact .inl h1
      · exact .inr fun d hd => by have := h1 d hd; simpa using this
    · exact logOk_spec h.2 i R hm

structure Inv (G : Gl) (ops : Array Oper) (s : Sch) (cx : Cx) (m : Nat → List Nat) (l pend : List Nat) (listed : Array Bool) (log : List (Nat × List Nat)) (env : Env) (σ : Sto) (a : Act) (w : World) (I : Imm) (β : Nat → Value) : Prop where
  lsz : listed.size = ops.size
  ord : orderOk s l = true
  iff_ : ∀ i, i < ops.size → (listed.getD i true = false ↔ i ∈ pend ∨ i ∈ l)
  dis : ∀ i ∈ pend, i ∉ l
  nd : pend.Nodup
  pw : ∀ i ∈ pend, ∀ j ∈ l, j ∉ s.T.getD i []
  ps : ∀ i ∈ pend, i < ops.size
  ls : ∀ i ∈ l, i < ops.size
  cl : ∀ j, listed.getD j false = true → ∀ i ∈ s.T.getD j [], listed.getD i false = true
  pn : ∀ i ∈ pend, Pend G ops s env σ β log i (m i)
  md : ∀ i ∈ pend, ∀ j ∈ pend, i ≠ j → ∀ d ∈ m i, d ∉ m j
  rw : RelW G cx I β σ w
  rp : RelP I β ops pend env a
  sz : a.tmps.size = G.N
  df : a.defers = []

theorem getD_set (listed : Array Bool) (i j : Nat) (b : Bool) (hi : i < listed.size) : (listed.setIfInBounds i true).getD j b = if i = j then true else listed.getD j b := by
  by_cases h : i = j
  · subst h; simp [Array.getD_eq_getD_getElem?, hi]
  · simp [h, Array.getD_eq_getD_getElem?, Array.getElem?_setIfInBounds_ne h]

section inv
variable {cx : Cx} {m : Nat → List Nat} {l pend : List Nat} {listed : Array Bool} {log : List (Nat × List Nat)} {env : Env} {σ : Sto} {a : Act} {w : World} {I : Imm} {β : Nat → Value}

theorem Inv.unlisted (inv : Inv G ops s cx m l pend listed log env σ a w I β) {i : Nat} (h : i ∈ pend ∨ i ∈ l) : listed.getD i false = false := by
  have hi : i < ops.size := by rcases h with h | h <;> first | exact inv.ps i h | exact inv.ls i h
  rw [getD_tf (by rw [inv.lsz]; exact hi) false true]
  exact (inv.iff_ i hi).2 h

theorem Inv.cl_set (st : Stat G ops s) (inv : Inv G ops s cx m l pend listed log env σ a w I β) {j : Nat} (hj : j ∈ Region.ready .any ops listed) :
    ∀ k, (listed.setIfInBounds j true).getD k false = true → ∀ i ∈ s.T.getD k [], (listed.setIfInBounds j true).getD i false = true := by
  obtain ⟨_, o, ho, _⟩ := ready_mem.1 hj
  have hjs : j < listed.size := by rw [inv.lsz]; exact (Array.getElem?_eq_some_iff.1 ho).1
  intro k hk i hi
  rw [getD_set _ _ _ _ hjs] at hk ⊢
  split
  · rfl
  · split at hk
    · rename_i h; subst h; exact waits_listed st inv.lsz inv.cl hj i hi
    · exact inv.cl k hk i hi

/-- what a ready operation looks at is no pending slot -/
theorem Inv.looks_pend (st : Stat G ops s) (inv : Inv G ops s cx m l pend listed log env σ a w I β) {j : Nat} {o : Oper} (hj : j ∈ Region.ready .any ops listed) (ho : ops[j]? = some o) (hself : j ∈ pend → j ∉ s.es) :
    ∀ i ∈ pend, ∀ oi, ops[i]? = some oi → ∀ t, oi.dst = some t → looks ops o t = false := by
  intro i hi oi hoi t ht
  rcases Bool.eq_false_or_eq_true (looks ops o t) with hl | hl
  · exfalso
    by_cases hij : i = j
    · subst hij
      have ho2 : some oi = some o := hoi.symm.trans ho
      cases ho2
      have := st.self i o t hoi ht (hself hi)
      rw [this] at hl
      cases hl
    · rcases st.read i j oi o t hoi ho ht hij hl with h | ⟨h, _⟩
      · have := waits_listed st inv.lsz inv.cl hj i h
        rw [inv.unlisted (.inl hi)] at this
        cases this
      · obtain ⟨_, _, _, hes, _⟩ := inv.pn i hi
        exact hes h
  · exact hl

theorem Inv.pendStep (st : Stat G ops s) (inv : Inv G ops s cx m l pend listed log env σ a w I β) {Q : Exit → Act → World → Prop} {K : Act → World → Prop} {j : Nat} (hj : j ∈ Region.ready .any ops listed) (hjp : j ∈ pend)
    (k : ∀ a' w' I' β', Inv G ops s cx m l (pend.erase j) (listed.setIfInBounds j true) log env σ a' w' I' β' → K a' w') : wpOp G.P ops Q j K a w := by
  obtain ⟨o, av, ho, hes, hav, h⟩ := inv.pn j hjp
  have hjs : j < listed.size := by rw [inv.lsz]; exact inv.ps j hjp
  have hlp := inv.looks_pend st hj ho (fun _ => hes)
  have hw := inv.rp.want st inv.sz hlp
  have hdst : ∀ d, o.dst = some d → d < a.tmps.size := fun d hd => by rw [inv.sz]; exact st.dst j o d ho hd
  -- the new state
  have next : ∀ v w' I' β', Rep I' β' av v → RelW G cx I' β' σ w' → ImmLe I I' → (∀ d, d ∉ m j → β' d = β d) → (∀ d ∈ m j, β d = .nilFunc ∨ β' d = β d) → Inv G ops s cx m l (pend.erase j) (listed.setIfInBounds j true) log env σ (a.put o.dst v) w' I' β' := by
    intro v w' I' β' hrep hw' hle hb hb2
    have hh : HLe β β' := fun d => by
      by_cases hd : d ∈ m j
      · exact hb2 d hd
      · exact .inr (hb d hd)
    refine { lsz := by simp [inv.lsz], ord := inv.ord, iff_ := fun i hi => ?_, dis := fun i hi => inv.dis i (List.mem_of_mem_erase hi), nd := inv.nd.erase j,
             pw := fun i hi => inv.pw i (List.mem_of_mem_erase hi), ps := fun i hi => inv.ps i (List.mem_of_mem_erase hi), ls := inv.ls, cl := inv.cl_set st hj, pn := fun i hi => ?_,
             md := fun i hi k hk => inv.md i (List.mem_of_mem_erase hi) k (List.mem_of_mem_erase hk), rw := hw', rp := fun t ht => ?_, sz := by rw [size_put]; exact inv.sz, df := by rw [defers_put]; exact inv.df }
    · rw [getD_set _ _ _ _ hjs]
      by_cases hij : j = i
      · subst hij
        simp only [if_true, Bool.true_eq_false, false_iff, not_or]
        exact ⟨fun h => (List.Nodup.mem_erase_iff inv.nd).1 h |>.1 rfl, inv.dis j hjp⟩
      · rw [if_neg hij, inv.iff_ i hi, List.Nodup.mem_erase_iff inv.nd]
        constructor
        · rintro (h | h)
          · exact .inl ⟨fun e => hij e.symm, h⟩
          · exact .inr h
        · rintro (h | h)
          · exact .inl h.2
          · exact .inr h
    · have hip := List.mem_of_mem_erase hi
      have hij : i ≠ j := fun e => ((List.Nodup.mem_erase_iff inv.nd).1 hi).1 e
      obtain ⟨oi, avi, q1, q2, q3, q4⟩ := inv.pn i hip
      refine ⟨oi, avi, q1, q2, q3, ?_⟩
      rcases q4 with q4 | ⟨q4, R, q5, q6, q7, q8⟩
      · exact .inl q4
      · refine .inr ⟨q4, R, q5, q6, q7, fun d hd => ⟨(q8 d hd).1, ?_, (q8 d hd).2.2⟩⟩
        rw [hb d (inv.md i hip j hjp hij d hd)]
        exact (q8 d hd).2.1
    · by_cases hto : o.dst = some t
      · rw [hto, tmps_put a t v t (by rw [inv.sz]; exact st.dst j o t ho hto), if_pos rfl, hav t hto]
        exact hrep
      · have : (a.put o.dst v).tmps.getD t undef = a.tmps.getD t undef := by
          cases hd : o.dst with
          | none => rfl
          | some d => rw [tmps_put a d v t (hdst d hd), if_neg (fun e => hto (by rw [hd, e]))]
        rw [this]
        refine Rep_mono hle hh _ _ (inv.rp t fun i hi oi hoi => ?_)
        by_cases hij : i = j
        · subst hij
          rw [ho] at hoi
          cases hoi
          exact hto
        · exact ht i ((List.Nodup.mem_erase_iff inv.nd).2 ⟨hij, hi⟩) oi hoi
  unfold wpOp
  simp only [ho]
  rcases h with ⟨h1, h2⟩ | ⟨h1, R, hY, hlog, hRs, hms⟩
  · rw [hw.2 h1]
    simp only [Bool.false_eq_true, if_false]
    exact k _ _ _ _ (next undef w I β (by rw [h2.1]; simp [Rep, RepC]) inv.rw (ImmLe.refl I) (fun _ _ => rfl) (fun _ _ => .inr rfl))
  · rw [hw.1 h1]
    simp only [if_true]
    refine .inl (UponV.wp (hY σ cx I β w a.eval (fun _ _ => rfl) inv.rw (fun d hd => (hms d hd).2.1) (inv.rp.ev hlp)) ?_)
    rintro v w' ⟨I', β', hrep, hw', hle, hb⟩
    exact k _ _ _ _ (next v w' I' β' hrep hw' hle hb (fun d hd => .inl (hms d hd).2.1))

/-- done in the certificate, not yet in the run -/
theorem Inv.virt (st : Stat G ops s) {i : Nat} (inv : Inv G ops s cx m (i :: l) pend listed log env σ a w I β) {o : Oper} (ho : ops[i]? = some o) (hes : i ∉ s.es) {mat R : List Nat} {av : AV} {σ2 : Sto}
    (hv : Virt G σ mat σ2 env) (hp : (Skip ops o env ∧ av = .undef ∧ mat = []) ∨ (Want ops o env ∧ Yields G o env.ev σ2 mat R av ∧ (∀ d ∈ R, (σ2.get d).isSome) ∧ (∀ d ∈ mat, d ∈ R))) :
    Inv G ops s cx (fun k => if k = i then mat else m k) l (i :: pend) listed ((i, R) :: log) (env.put o.dst av) σ2 a w I (setH β mat) := by
  have hip : i ∉ pend := fun h => inv.dis i h (by simp)
  have hord := inv.ord
  simp only [orderOk, Bool.and_eq_true, List.all_eq_true, Bool.not_eq_true', List.contains_eq_mem, decide_eq_false_iff_not, beq_eq_false_iff_ne] at hord
  have hb : ∀ d, mat.contains d = false → setH β mat d = β d := fun d hd => by
    have : d ∉ mat := by simpa using hd
    simp [setH, this]
  have hfresh : ∀ d, (σ.get d).isSome → d ∉ mat := fun d hd hm => by
    obtain ⟨x, hx⟩ := Option.isSome_iff_exists.1 hd
    have := (Sto.clean_get hv.2.2.2 d x hx).1
    simp [hm] at this
  have hm' : ∀ p ∈ pend, (if p = i then mat else m p) = m p := fun p hp => by
    have : p ≠ i := fun e => by subst e; exact hip hp
    rw [if_neg this]
  refine { lsz := inv.lsz, ord := hord.2, iff_ := fun k hk => ?_, dis := fun k hk hl => ?_, nd := List.nodup_cons.2 ⟨hip, inv.nd⟩, pw := fun k hk j hj => ?_, ps := fun k hk => ?_, ls := fun k hk => inv.ls k (by simp [hk]),
           cl := inv.cl, pn := fun k hk => ?_, md := fun k hk j hj hne d hd => ?_, rw := inv.rw.virt hv, rp := fun t ht => ?_, sz := inv.sz, df := inv.df }
  · rw [inv.iff_ k hk]; simp only [List.mem_cons]
    constructor
    · rintro (h | h | h)
      · exact .inl (.inr h)
      · exact .inl (.inl h)
      · exact .inr h
    · rintro ((h | h) | h)
      · exact .inr (.inl h)
      · exact .inl h
      · exact .inr (.inr h)
  · rcases List.mem_cons.1 hk with rfl | hk
    · exact (hord.1 k hl).1.2 rfl
    · exact inv.dis k hk (by simp [hl])
  · rcases List.mem_cons.1 hk with rfl | hk
    · exact (hord.1 j hj).1.1
    · exact inv.pw k hk j (by simp [hj])
  · rcases List.mem_cons.1 hk with rfl | hk
    · exact inv.ls k (by simp)
    · exact inv.ps k hk
  · rcases List.mem_cons.1 hk with rfl | hk
    · have hself : ∀ t, o.dst = some t → looks ops o t = false := fun t ht => st.self k o t ho ht hes
      refine ⟨o, av, ho, hes, fun t ht => by simp [ht, Env.put, Env.get_cons], ?_⟩
      simp only [if_true]
      rcases hp with ⟨h1, h2⟩ | ⟨h1, hY, hR, hM⟩
      · exact .inl ⟨(Want.put hself).2 h1, h2⟩
      · refine .inr ⟨(Want.put hself).1 h1, R, hY.ev (fun x hx => Env.ev_put_ne fun t e hxt => ?_), by simp, hR, fun d hd => ⟨hM d hd, by simp [setH, hd], hv.2.1 d hd⟩⟩
        have := hself t e
        rw [looks_op (hxt ▸ hx)] at this
        cases this
    · rw [hm' k hk]
      refine (inv.pn k hk).put (fun ok hok t ht => ?_) (fun x hx => by simp [hx]) (fun R' hR' d hd hs => hv.1 d (hfresh d hs)) (fun d hd hs hn => by rw [hb d (by simpa using hfresh d hs)]; exact hn)
      have hki : i ≠ k := fun e => hip (e ▸ hk)
      constructor
      · rcases Bool.eq_false_or_eq_true (looks ops ok t) with hl | hl
        · rcases st.read i k o ok t ho hok ht hki hl with h | ⟨h, _⟩
          · exact absurd h (inv.pw k hk i (by simp))
          · exact absurd h hes
        · exact hl
      · exact fun e => hes (st.one i k o ok t ho hok ht e hki).1
  · have key : ∀ p ∈ pend, ∀ d ∈ m p, d ∉ mat := fun p hp d hd => by
      obtain ⟨_, _, _, _, _, q⟩ := inv.pn p hp
      rcases q with q | ⟨_, _, _, _, q', q⟩
      · rw [q.2.2] at hd; simp at hd
      · exact hfresh d (q' d (q d hd).1)
    rcases List.mem_cons.1 hk with ek | hk2
    · subst ek
      rcases List.mem_cons.1 hj with ej | hj2
      · exact absurd ej.symm hne
      · simp only [if_true] at hd
        rw [hm' j hj2]
        exact fun h => key j hj2 d h hd
    · rw [hm' k hk2] at hd
      rcases List.mem_cons.1 hj with ej | hj2
      · subst ej
        simp only [if_true]
        exact key k hk2 d hd
      · rw [hm' j hj2]
        exact inv.md k hk2 j hj2 hne d hd
  · have hto : o.dst ≠ some t := ht i (by simp) o ho
    rw [Env.get_put_ne hto]
    exact Rep_beta hb _ _ (Env.clean_get hv.2.2.1 t) (inv.rp t fun k hk => ht k (by simp [hk]))

theorem Inv.eff (st : Stat G ops s) {i : Nat} (inv : Inv G ops s cx m (i :: l) pend listed log env σ a w I β) {o : Oper} (ho : ops[i]? = some o) (hes : i ∈ s.es) (hr : i ∈ Region.ready .any ops listed) {M news : List Nat} {av : AV} {σ' : Sto}
    (hlog : logOk s i M log = true) (hc : env.clean news.contains = true) (hnew : ∀ d ∈ news, d ∉ G.ids ∧ σ.get d = none) {v : Value} {w' : World} {I' : Imm} {β' : Nat → Value}
    (hrep : Rep I' β' av v) (hw' : RelW G cx I' β' σ' w') (hle : ImmLe I I') (hb : ∀ d, d ∉ news → β' d = β d) (hM : ∀ d, d ∉ M → σ'.get d = σ.get d) :
    Inv G ops s cx m l pend (listed.setIfInBounds i true) log (env.put o.dst av) σ' (a.put o.dst v) w' I' β' := by
  have hip : i ∉ pend := fun h => inv.dis i h (by simp)
  have his : i < listed.size := by rw [inv.lsz]; exact inv.ls i (by simp)
  have hord := inv.ord
  simp only [orderOk, Bool.and_eq_true, List.all_eq_true, Bool.not_eq_true', List.contains_eq_mem, decide_eq_false_iff_not, beq_eq_false_iff_ne] at hord
  have hwl := waits_listed st inv.lsz inv.cl hr
  have hnp : ∀ p ∈ pend, p ∉ s.T.getD i [] := fun p hp hh => by
    have := hwl p hh
    rw [inv.unlisted (.inl hp)] at this
    cases this
  have hdst : ∀ d, o.dst = some d → d < a.tmps.size := fun d hd => by rw [inv.sz]; exact st.dst i o d ho hd
  refine { lsz := by simp [inv.lsz], ord := hord.2, iff_ := fun k hk => ?_, dis := fun k hk hl => inv.dis k hk (by simp [hl]), nd := inv.nd, pw := fun k hk j hj => inv.pw k hk j (by simp [hj]), ps := inv.ps, ls := fun k hk => inv.ls k (by simp [hk]),
           cl := inv.cl_set st hr, pn := fun k hk => ?_, md := inv.md, rw := hw', rp := fun t ht => ?_, sz := by rw [size_put]; exact inv.sz, df := by rw [defers_put]; exact inv.df }
  · rw [getD_set _ _ _ _ his]
    by_cases hik : i = k
    · subst hik
      simp only [if_true, Bool.true_eq_false, false_iff, not_or]
      exact ⟨hip, fun h => (hord.1 i h).1.2 rfl⟩
    · rw [if_neg hik, inv.iff_ k hk]
      simp only [List.mem_cons]
      constructor
      · rintro (h | h | h)
        · exact .inl h
        · exact absurd h.symm hik
        · exact .inr h
      · rintro (h | h)
        · exact .inl h
        · exact .inr (.inr h)
  · have hki : i ≠ k := fun e => hip (e ▸ hk)
    have hkes : k ∉ s.es := by obtain ⟨_, _, _, q, _⟩ := inv.pn k hk; exact q
    refine (inv.pn k hk).put (fun ok hok t ht => ?_) (fun x hx => hx) (fun R hR d hd hs => ?_) (fun d hd hs hnil => ?_)
    · constructor
      · rcases Bool.eq_false_or_eq_true (looks ops ok t) with hl | hl
        · rcases st.read i k o ok t ho hok ht hki hl with h | ⟨_, h⟩
          · exact absurd h (inv.pw k hk i (by simp))
          · exact absurd h (hnp k hk)
        · exact hl
      · exact fun e => hkes (st.one i k o ok t ho hok ht e hki).2
    · rcases logOk_spec hlog k R hR with h | h
      · exact absurd h (hnp k hk)
      · exact hM d (h d hd)
    · have hdn : d ∉ news := fun h => by rw [(hnew d h).2] at hs; cases hs
      rw [hb d hdn]; exact hnil
  · by_cases hto : o.dst = some t
    · rw [hto, tmps_put a t v t (hdst t hto), if_pos rfl]
      simp only [Env.put, Env.get_cons, if_true]
      exact hrep
    · rw [Env.get_put_ne hto]
      have : (a.put o.dst v).tmps.getD t undef = a.tmps.getD t undef := by
        cases hd : o.dst with
        | none => rfl
        | some d => rw [tmps_put a d v t (hdst d hd), if_neg (fun e => hto (by rw [hd, e]))]
      rw [this]
      exact Rep_mono hle (HLe.refl _) _ _ (Rep_beta (p := news.contains) (fun d hd => hb d (by simpa using hd)) _ _ (Env.clean_get hc t) (inv.rp t ht))
end inv

theorem cert_any (st : Stat G ops s) (hdr : s.dr = true) (Q : Exit → Act → World → Prop) (K : Env → Sto → Prop) (cx : Cx)
    (hK : ∀ env σ a w, K env σ → RelA G cx env σ a w → Q .normal a w) :
    ∀ (fuel : Nat) (l pend : List Nat) (m : Nat → List Nat) (listed : Array Bool) (log : List (Nat × List Nat)) (env : Env) (σ : Sto) (a : Act) (w : World) (I : Imm) (β : Nat → Value),
      pend.length + l.length = fuel → Inv G ops s cx m l pend listed log env σ a w I β → Cert G ops s log l env σ K → wpAny G.P .any ops Q fuel listed a w := by
  intro fuel
  induction fuel with
  | zero =>
    intro l pend m listed log env σ a w I β hlen inv hc
    have hp : pend = [] := List.eq_nil_of_length_eq_zero (by omega)
    have hl : l = [] := List.eq_nil_of_length_eq_zero (by omega)
    subst hp hl
    refine ⟨?_, hK env σ a w hc ⟨I, β, inv.rw, fun t => inv.rp t (by simp), inv.sz, inv.df⟩⟩
    apply List.eq_nil_iff_forall_not_mem.2
    intro j hj
    obtain ⟨h1, o, ho, _⟩ := ready_mem.1 hj
    have := (inv.iff_ j (Array.getElem?_eq_some_iff.1 ho).1).1 h1
    simp at this
  | succ fuel ih =>
    intro l
    have nonempty : ∀ {l pend : List Nat} {m : Nat → List Nat} {listed : Array Bool} {log : List (Nat × List Nat)} {env : Env} {σ : Sto} {a : Act} {w : World} {I : Imm} {β : Nat → Value}, pend.length + l.length = fuel + 1 →
        Inv G ops s cx m l pend listed log env σ a w I β → Region.ready .any ops listed ≠ [] := by
      intro l pend m listed log env σ a w I β hlen inv
      have : ∃ p, p ∈ pend ∨ p ∈ l := by
        cases pend with
        | nil => cases l with
          | nil => simp at hlen
          | cons p _ => exact ⟨p, .inr (by simp)⟩
        | cons p _ => exact ⟨p, .inl (by simp)⟩
      obtain ⟨p, hp⟩ := this
      have hps : p < ops.size := by rcases hp with h | h <;> first | exact inv.ps p h | exact inv.ls p h
      exact ready_exists st inv.lsz _ p (Nat.le_refl _) hps ((inv.iff_ p hps).2 hp)
    induction l with
    | nil =>
      intro pend m listed log env σ a w I β hlen inv hc
      refine ⟨fun hr => absurd hr (nonempty hlen inv), fun j hj => ?_⟩
      obtain ⟨hun, o, ho, _⟩ := ready_mem.1 hj
      have hjp : j ∈ pend := by simpa using (inv.iff_ j (Array.getElem?_eq_some_iff.1 ho).1).1 hun
      refine inv.pendStep st hj hjp fun a' w' I' β' inv' => ih _ _ _ _ _ _ _ _ _ _ _ ?_ inv' hc
      rw [List.length_erase_of_mem hjp]
      have := List.length_pos_of_mem hjp
      omega
    | cons i l ihl =>
      intro pend m listed log env σ a w I β hlen inv hc
      obtain ⟨o, ho, hcc⟩ := hc
      have hc : Cert G ops s log (i :: l) env σ K := ⟨o, ho, hcc⟩
      have hlen' : (i :: pend).length + l.length = fuel + 1 := by simp at hlen ⊢; omega
      have nolog : ∀ log : List (Nat × List Nat), logOk s i [] log = true := by
        intro log
        induction log with
        | nil => rfl
        | cons x r ihh => obtain ⟨k, R⟩ := x; simp [logOk, ihh]
      -- an operation of the class E
      have effstep : i ∈ s.es → (∀ (_ : i ∈ Region.ready .any ops listed), wpOp G.P ops Q i (wpAny G.P .any ops Q fuel (listed.setIfInBounds i true)) a w) → wpAny G.P .any ops Q (fuel + 1) listed a w := by
        intro hes hex
        refine ⟨fun hr => absurd hr (nonempty hlen inv), fun j hj => ?_⟩
        obtain ⟨hun, oj, hoj, _⟩ := ready_mem.1 hj
        rcases (inv.iff_ j (Array.getElem?_eq_some_iff.1 hoj).1).1 hun with hjp | hjl
        · refine inv.pendStep st hj hjp fun a' w' I' β' inv' => ih _ _ _ _ _ _ _ _ _ _ _ ?_ inv' hc
          rw [List.length_erase_of_mem hjp]
          have := List.length_pos_of_mem hjp
          omega
        · rcases List.mem_cons.1 hjl with rfl | hjl
          · exact hex hj
          · exfalso
            have hord := inv.ord
            simp only [orderOk, Bool.and_eq_true, List.all_eq_true, Bool.or_eq_true, Bool.not_eq_true', List.contains_eq_mem, decide_eq_false_iff_not, decide_eq_true_eq] at hord
            have := (hord.1 j hjl).2.resolve_left (fun h => h hes)
            have := waits_listed st inv.lsz inv.cl hj i this
            rw [inv.unlisted (.inr (by simp))] at this
            cases this
      have hlenE : pend.length + l.length = fuel := by simp at hlen; omega
      rcases hcc with ⟨h1, h2, h3⟩ | ⟨h1, h2, mat, R, av, σ2, hv, hR, hM, hY, h3⟩ | ⟨h1, h2, M, news, Φ, hD, hlog, hcl, hnew, h3⟩ | ⟨h1, h2, h3⟩
      · exact ihl (i :: pend) _ listed ((i, []) :: log) _ _ a w I _ hlen' (inv.virt st ho (h2 hdr) (mat := []) (R := []) (Virt.none G σ env) (.inl ⟨h1, rfl, rfl⟩)) h3
      · exact ihl (i :: pend) _ listed ((i, R) :: log) _ _ a w I _ hlen' (inv.virt st ho (h2 hdr) hv (.inr ⟨h1, hY, hR, hM⟩)) h3
      · refine effstep (h2 hdr) fun hr => ?_
        have hlp := inv.looks_pend st hr ho (fun h => absurd (h2 hdr) (by obtain ⟨_, _, _, q, _⟩ := inv.pn i h; exact q))
        have hw := inv.rp.want st inv.sz hlp
        unfold wpOp
        simp only [ho]
        rw [hw.1 h1]
        simp only [if_true]
        refine .inl (UponV.wp (hD cx I β w a.eval inv.rw (inv.rp.ev hlp)) ?_)
        rintro v w' ⟨av, σ', I', β', hΦ, hrep, hw', hle, hb, hMM⟩
        exact ih _ _ _ _ _ _ _ _ _ _ _ hlenE (inv.eff st ho (h2 hdr) hr (hlog hdr) hcl hnew hrep hw' hle hb hMM) (h3 av σ' hΦ)
      · refine effstep (h2 hdr) fun hr => ?_
        have hlp := inv.looks_pend st hr ho (fun h => absurd (h2 hdr) (by obtain ⟨_, _, _, q, _⟩ := inv.pn i h; exact q))
        have hw := inv.rp.want st inv.sz hlp
        unfold wpOp
        simp only [ho]
        rw [hw.2 h1]
        simp only [Bool.false_eq_true, if_false]
        exact ih _ _ _ _ _ _ _ _ _ _ _ hlenE (inv.eff st ho (h2 hdr) hr (M := []) (news := []) (av := .undef) (nolog log) (Env.clean_none env) (by simp) (by simp [Rep, RepC]) inv.rw (ImmLe.refl I) (fun _ _ => rfl) (fun _ _ => rfl)) h3
end any
end Go.Proofs.Ytggbjbcgfelgiaa
