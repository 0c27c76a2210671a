/- The judgement on code and on calls; what a call hands back; a loop; a call of a function. No condition. -/
import Derived.Test.YtggbjbcgfelgiaaA2
namespace Go.Proofs.Ytggbjbcgfelgiaa
set_option linter.all false
open Go

def acode (G : Gl) (c : Code) (Q : Exit → Env → Sto → Prop) (env : Env) (σ : Sto) : Prop :=
  ∀ cx a w, RelA G cx env σ a w → c.wp G.P (fun e a' w' => ∃ env' σ', RelA G cx env' σ' a' w' ∧ Q e env' σ') a w

theorem acode.mono {G : Gl} {c : Code} {Q Q' : Exit → Env → Sto → Prop} {env : Env} {σ : Sto} (h : acode G c Q env σ) (hq : ∀ e env σ, Q e env σ → Q' e env σ) : acode G c Q' env σ :=
  fun cx a w hr => wp_mono (h cx a w hr) fun _ _ _ ⟨env', σ', h1, h2⟩ => ⟨env', σ', h1, hq _ _ _ h2⟩

/-! ### code -/
section code
variable {G : Gl} {Q : Exit → Env → Sto → Prop} {env : Env} {σ : Sto}

theorem A.skip (h : Q .normal env σ) : acode G .skip Q env σ := fun _ _ _ hr => wp_skip ⟨env, σ, hr, h⟩
theorem A.exit {id : Nat} (h : Q (.exit id) env σ) : acode G (.exit id) Q env σ := fun _ _ _ hr => wp_exit ⟨env, σ, hr, h⟩
theorem A.ret (h : Q .ret env σ) : acode G .ret Q env σ := fun _ _ _ hr => wp_ret ⟨env, σ, hr, h⟩

def thenA (next : Env → Sto → Prop) (Q : Exit → Env → Sto → Prop) : Exit → Env → Sto → Prop
  | .normal, env, σ => next env σ
  | e, env, σ => Q e env σ
theorem A.seq {x y : Code} (h : acode G x (thenA (acode G y Q) Q) env σ) : acode G (.seq x y) Q env σ := by
  intro cx a w hr
  refine wp_seq (wp_mono (h cx a w hr) ?_)
  rintro e a' w' ⟨env', σ', hr', hq⟩
  cases e with
  | normal => exact hq cx a' w' hr'
  | _ => exact ⟨env', σ', hr', hq⟩

def blockA (id : Nat) (Q : Exit → Env → Sto → Prop) : Exit → Env → Sto → Prop
  | .exit id', env, σ => bif Nat.beq id' id then Q .normal env σ else Q (.exit id') env σ
  | e, env, σ => Q e env σ
theorem A.block {id : Nat} {x : Code} (h : acode G x (blockA id Q) env σ) : acode G (.block id x) Q env σ := by
  intro cx a w hr
  refine wp_block (wp_mono (h cx a w hr) ?_)
  rintro e a' w' ⟨env', σ', hr', hq⟩
  cases e with
  | exit id' =>
    simp only [blockA, Exit.inBlock] at hq ⊢
    by_cases h : id' = id
    · subst h; simp at hq ⊢; exact ⟨env', σ', hr', hq⟩
    · have : Nat.beq id' id = false := by rw [← Bool.not_eq_true, Nat.beq_eq]; exact h
      simp only [this, cond_false] at hq
      rw [if_neg h]
      exact ⟨env', σ', hr', hq⟩
  | _ => exact ⟨env', σ', hr', hq⟩

theorem A.cond {c : Operand} {x y : Code} {b : Bool} (hc : env.ev c = .bool b) (ht : b = true → acode G x Q env σ) (hf : b = false → acode G y Q env σ) : acode G (.cond c x y) Q env σ := by
  intro cx a w hr
  obtain ⟨I, β, h1, h2, h3, h4⟩ := hr
  have hv := h2.ev c
  rw [hc] at hv
  simp only [Rep, RepC] at hv
  exact wp_cond_split hv (fun e => ht e cx a w ⟨I, β, h1, h2, h3, h4⟩) (fun e => hf e cx a w ⟨I, β, h1, h2, h3, h4⟩)

/-! ### a region -/
theorem A.region {id : Nat} {ops : Array Oper} (hd : dstOk G.N ops = true) (h : Cert G ops ⟨false, [], []⟩ [] (List.range ops.size) env σ (fun env σ => Q .normal env σ)) : acode G (.region id ops false) Q env σ := by
  intro cx a w hr
  exact wp_region (cert_seq G ops _ _ (dstOk_spec hd) _ cx (fun env σ a w hk hr => ⟨env, σ, hr, hk⟩) _ _ _ _ _ _ h hr)

theorem RelW.drew {G : Gl} {cx : Cx} {I : Imm} {β : Nat → Value} {w : World} (h : RelW G cx I β σ w) : RelW G cx I β σ { w with drawn := w.drawn + 1 } :=
  { good := h.good, imono := h.imono, iext := h.iext, frame := h.frame, size := h.size, tape := h.tape, os := h.os, output := h.output, objs := h.objs, sep := h.sep, keep := h.keep }

theorem A.any {id : Nat} {ops : Array Oper} (T : List (List Nat)) (es l : List Nat) (hm : G.P.follows .mixedOrders = true) (hs : schOk G.N ops ⟨true, T, es⟩ l = true)
    (h : Cert G ops ⟨true, T, es⟩ [] l env σ (fun env σ => Q .normal env σ)) : acode G (.region id ops true) Q env σ := by
  intro cx a w hr
  obtain ⟨st, hord, hmem⟩ := Stat.of hs
  obtain ⟨I, β, h1, h2, h3, h4⟩ := hr
  refine wp_region_any hm (cert_any st rfl _ _ cx (fun env σ a w hk hr => ⟨env, σ, hr, hk⟩) ops.size l [] (fun _ => []) _ [] env σ a _ I β ?_
    { lsz := by simp, ord := hord, iff_ := fun i hi => ?_, dis := fun i hi => by simp at hi, nd := List.nodup_nil, pw := fun i hi => by simp at hi, ps := fun i hi => by simp at hi, ls := fun i hi => (hmem i).2 hi,
      cl := fun j hj => ?_, pn := fun i hi => by simp at hi, md := fun i hi => by simp at hi, rw := h1.drew, rp := fun t _ => h2 t, sz := h3, df := h4 } h)
  · -- the schedule lists each operation once
    have nd : ∀ l : List Nat, orderOk ⟨true, T, es⟩ l = true → l.Nodup := by
      intro l
      induction l with
      | nil => intro _; exact List.nodup_nil
      | cons i l ih =>
        intro h
        simp only [orderOk, Bool.and_eq_true, List.all_eq_true, Bool.not_eq_true', beq_eq_false_iff_ne] at h
        exact List.nodup_cons.2 ⟨fun hi => (h.1 i hi).1.2 rfl, ih h.2⟩
    have hp : l.Perm (List.range ops.size) := (List.perm_ext_iff_of_nodup (nd l hord) List.nodup_range).2 fun i => by rw [List.mem_range]; exact (hmem i).symm
    simpa using hp.length_eq
  · simp [Array.getD_eq_getD_getElem?, hi, (hmem i).1 hi]
  · simp only [Array.getD_eq_getD_getElem?, Array.getElem?_replicate] at hj
    split at hj <;> simp at hj

/-! ### weakening -/
def Weak (G : Gl) (env : Env) (σ : Sto) (env2 : Env) (σ2 : Sto) : Prop :=
  ∀ cx I β a w, RelW G cx I β σ w → RelT I β env a → ∃ I' β', RelW G cx I' β' σ2 w ∧ RelT I' β' env2 a
theorem Weak.refl (G : Gl) (env : Env) (σ : Sto) : Weak G env σ env σ := fun _ I β _ _ h h' => ⟨I, β, h, h'⟩
theorem Weak.trans {env1 env2 : Env} {σ1 σ2 : Sto} (h : Weak G env σ env1 σ1) (h' : Weak G env1 σ1 env2 σ2) : Weak G env σ env2 σ2 := fun cx I β a w h1 h2 => by
  obtain ⟨I', β', h3, h4⟩ := h cx I β a w h1 h2
  exact h' cx I' β' a w h3 h4
theorem Weak.rel {env2 : Env} {σ2 : Sto} (h : Weak G env σ env2 σ2) {cx : Cx} {a : Act} {w : World} (hr : RelA G cx env σ a w) : RelA G cx env2 σ2 a w := by
  obtain ⟨I, β, h1, h2, h3, h4⟩ := hr
  obtain ⟨I', β', h5, h6⟩ := h cx I β a w h1 h2
  exact ⟨I', β', h5, h6, h3, h4⟩
theorem A.weak {c : Code} {env2 : Env} {σ2 : Sto} (h : Weak G env σ env2 σ2) (k : acode G c Q env2 σ2) : acode G c Q env σ := fun cx a w hr => k cx a w (h.rel hr)

theorem A.loop {c : Code} {α : Type} (envOf : α → Env) (stOf : α → Sto) (φ : α → Prop) (μ : α → Nat) (g0 : α) (h0 : φ g0) (hw : Weak G env σ (envOf g0) (stOf g0))
    (step : ∀ g, φ g → acode G c (thenA (fun env' σ' => ∃ g', φ g' ∧ μ g' < μ g ∧ Weak G env' σ' (envOf g') (stOf g')) Q) (envOf g) (stOf g)) : acode G (.loop c) Q env σ := by
  intro cx a w hr b k cs
  have key : ∀ n g a w, μ g = n → φ g → RelA G cx (envOf g) (stOf g) a w → ∃ e a' w', (∃ env' σ', RelA G cx env' σ' a' w' ∧ Q e env' σ') ∧
      Arrives G.P (lone (b.at a (.code c :: .inLoop c :: k)) cs w) b k cs e a' w' := by
    intro n
    induction n using Nat.strongRecOn with
    | _ n ih =>
      intro g a w hn hg hr
      obtain ⟨e, a₁, w₁, hq, harr⟩ := step g hg cx a w hr b (.inLoop c :: k) cs
      obtain ⟨env', σ', hr', hq⟩ := hq
      cases e with
      | normal =>
        obtain ⟨g', hg', hlt, hwk⟩ := hq
        obtain ⟨e₂, a₂, w₂, hq₂, harr₂⟩ := ih (μ g') (hn ▸ hlt) g' a₁ w₁ rfl hg' (hwk.rel hr')
        exact ⟨e₂, a₂, w₂, hq₂, .of_steps (Steps.trans harr (.one step_inLoop)) harr₂⟩
      | exit id => exact ⟨_, a₁, w₁, ⟨env', σ', hr', hq⟩, .pass (x := .inLoop c) rfl (fun _ _ => .inl (by simp)) harr⟩
      | goto l => exact ⟨_, a₁, w₁, ⟨env', σ', hr', hq⟩, .pass (x := .inLoop c) rfl (fun _ _ => .inl (by simp)) harr⟩
      | ret => exact ⟨_, a₁, w₁, ⟨env', σ', hr', hq⟩, .pass (x := .inLoop c) rfl (fun _ _ => .inl (by simp)) harr⟩
      | panic ch => exact ⟨_, a₁, w₁, ⟨env', σ', hr', hq⟩, .pass (x := .inLoop c) rfl (fun _ _ => .inl (by simp)) harr⟩
      | outgrown => exact ⟨_, a₁, w₁, ⟨env', σ', hr', hq⟩, .pass (x := .inLoop c) rfl (fun _ _ => .inl (by simp)) harr⟩
  obtain ⟨e, a', w', hq, harr⟩ := key _ g0 a w rfl h0 (hw.rel hr)
  exact ⟨e, a', w', hq, .of_steps (.one step_loop) harr⟩
end code

mutual
def AV.closed : AV → Bool
  | .agg cs => closedL cs
  | .tup cs => closedL cs
  | .fn _ cs => closedL cs
  | .own _ => false
  | .ptr _ _ => false
  | .mapv _ => false
  | _ => true
def closedL : List AV → Bool
  | [] => true
  | x :: r => x.closed && closedL r
end
mutual
theorem Rep.closed {I : Imm} {β : Nat → Value} : ∀ (a : AV) (v : Value), a.closed = true → Rep I β a v → RepC I a v
  | .junk, _, _, _ => trivial
  | .undef, _, _, h => by simpa only [Rep] using h
  | .int _ _, _, _, h => by simpa only [Rep] using h
  | .bool _, _, _, h => by simpa only [Rep] using h
  | .str _, _, _, h => by simpa only [Rep] using h
  | .lst _ _, _, _, h => by simpa only [Rep] using h
  | .lptr _, _, _, h => by simpa only [Rep] using h
  | .nils, _, _, h => by simpa only [Rep] using h
  | .nilp, _, _, h => by simpa only [Rep] using h
  | .cfn _ _, _, _, h => by simpa only [Rep] using h
  | .sl0, _, _, h => by simpa only [Rep] using h
  | .agg cs, v, hc, h => by
    simp only [RepC, Rep, AV.closed] at h hc ⊢
    obtain ⟨vs, h1, h2⟩ := h
    exact ⟨vs, h1, RepL.closed cs _ hc h2⟩
  | .tup cs, v, hc, h => by
    simp only [RepC, Rep, AV.closed] at h hc ⊢
    obtain ⟨vs, h1, h2⟩ := h
    exact ⟨vs, h1, RepL.closed cs _ hc h2⟩
  | .fn f cs, v, hc, h => by
    simp only [RepC, Rep, AV.closed] at h hc ⊢
    obtain ⟨vs, h1, h2⟩ := h
    exact ⟨vs, h1, RepL.closed cs _ hc h2⟩
  | .own _, _, hc, _ => by simp [AV.closed] at hc
  | .ptr _ _, _, hc, _ => by simp [AV.closed] at hc
  | .mapv _, _, hc, _ => by simp [AV.closed] at hc
theorem RepL.closed {I : Imm} {β : Nat → Value} : ∀ (a : List AV) (v : List Value), closedL a = true → RepL I β a v → RepCs I a v
  | [], _, _, h => h
  | x :: r, v, hc, h => by
    simp only [RepL, RepCs, closedL, Bool.and_eq_true] at h hc ⊢
    obtain ⟨u, us, h1, h2, h3⟩ := h
    exact ⟨u, us, h1, Rep.closed x u hc.1 h2, RepL.closed r us hc.2 h3⟩
end
mutual
theorem closed_refs {p : Nat → Bool} : ∀ a : AV, a.closed = true → a.refs p = false
  | .junk, _ | .undef, _ | .int _ _, _ | .bool _, _ | .str _, _ | .lst _ _, _ | .lptr _, _ | .nils, _ | .nilp, _ | .cfn _ _, _ | .sl0, _ => rfl
  | .agg cs, h => by simp only [AV.refs, AV.closed] at h ⊢; exact closed_refsL cs h
  | .tup cs, h => by simp only [AV.refs, AV.closed] at h ⊢; exact closed_refsL cs h
  | .fn _ cs, h => by simp only [AV.refs, AV.closed] at h ⊢; exact closed_refsL cs h
  | .own _, h => by simp [AV.closed] at h
  | .ptr _ _, h => by simp [AV.closed] at h
  | .mapv _, h => by simp [AV.closed] at h
theorem closed_refsL {p : Nat → Bool} : ∀ a : List AV, closedL a = true → refsL p a = false
  | [], _ => rfl
  | x :: r, h => by
    simp only [closedL, Bool.and_eq_true] at h
    simp only [refsL, closed_refs x h.1, closed_refsL r h.2, Bool.or_self]
end

/-! ### sealing: an owned slice that is frozen whole reads as a list -/
mutual
inductive Seal (σ : Sto) : AV → AV → Prop
  | refl (a : AV) : Seal σ a a
  | nil (f : Bool) : Seal σ .nils (.lst f [])
  | sl0 : Seal σ .sl0 (.lst false [])
  | full (xs : List (List AV)) : Seal σ (.lst true xs) (.lst false xs)
  | own {d : Nat} {T : TypeId} {sz k : Nat} {xs : List (List AV)} (h : σ.get d = some (.slice T sz xs k true)) : Seal σ (.own d) (.lst false xs)
  | agg {cs cs' : List AV} (h : SealL σ cs cs') : Seal σ (.agg cs) (.agg cs')
  | tup {cs cs' : List AV} (h : SealL σ cs cs') : Seal σ (.tup cs) (.tup cs')
  | fn {f : Nat} {cs cs' : List AV} (h : SealL σ cs cs') : Seal σ (.fn f cs) (.fn f cs')
  | junk (a : AV) : Seal σ a .junk
  | cfn {f : Nat} {a : AV} {cs : List AV} (h : Seal σ a (.fn f cs)) (hc : closedL cs = true) : Seal σ a (.cfn f cs)
inductive SealL (σ : Sto) : List AV → List AV → Prop
  | nil : SealL σ [] []
  | cons {a b : AV} {r s : List AV} (h : Seal σ a b) (t : SealL σ r s) : SealL σ (a :: r) (b :: s)
end

theorem RepRow_of {I : Imm} {b : Nat} : ∀ (cs : List AV) (o : Nat) (vs : List Value), RepCs I cs vs → (∀ j v, vs[j]? = some v → I b (o + j) = some v) → RepRow I b cs o
  | [], _, _, _, _ => trivial
  | x :: r, o, vs, h, hI => by
    simp only [RepCs] at h
    obtain ⟨u, us, rfl, h1, h2⟩ := h
    refine ⟨⟨u, by simpa using hI 0 u rfl, h1⟩, RepRow_of r (o + 1) us h2 fun j v hv => ?_⟩
    have := hI (j + 1) v (by simpa using hv)
    rwa [show o + (j + 1) = o + 1 + j from by omega] at this
theorem RepCs_append {I : Imm} : ∀ (xs ys : List AV) (vs : List Value), RepCs I (xs ++ ys) vs ↔ ∃ us ws, vs = us ++ ws ∧ RepCs I xs us ∧ RepCs I ys ws
  | [], ys, vs => by
    simp only [List.nil_append, RepCs]
    exact ⟨fun h => ⟨[], vs, rfl, rfl, h⟩, fun ⟨us, ws, h1, h2, h3⟩ => by subst h2; simp at h1; subst h1; exact h3⟩
  | x :: r, ys, vs => by
    simp only [List.cons_append, RepCs]
    constructor
    · rintro ⟨u, us, rfl, h1, h2⟩
      obtain ⟨us', ws, rfl, h3, h4⟩ := (RepCs_append r ys us).1 h2
      exact ⟨u :: us', ws, rfl, ⟨u, us', rfl, h1, h3⟩, h4⟩
    · rintro ⟨us, ws, rfl, ⟨u, us', rfl, h1, h3⟩, h4⟩
      exact ⟨u, us' ++ ws, rfl, h1, (RepCs_append r ys _).2 ⟨us', ws, rfl, h3, h4⟩⟩
theorem RepCs_length {I : Imm} : ∀ (xs : List AV) (vs : List Value), RepCs I xs vs → vs.length = xs.length
  | [], vs, h => by simp only [RepCs] at h; subst h; rfl
  | x :: r, vs, h => by
    simp only [RepCs] at h
    obtain ⟨u, us, rfl, _, h2⟩ := h
    simp [RepCs_length r us h2]
theorem RepL_length {I : Imm} {β : Nat → Value} : ∀ (xs : List AV) (vs : List Value), RepL I β xs vs → vs.length = xs.length
  | [], vs, h => by simp only [RepL] at h; subst h; rfl
  | x :: r, vs, h => by
    simp only [RepL] at h
    obtain ⟨u, us, rfl, _, h2⟩ := h
    simp [RepL_length r us h2]
theorem RepRows_of {I : Imm} {b : Nat} : ∀ (xs : List (List AV)) (o : Nat) (vs : List Value), RepCs I xs.flatten vs → (∀ j v, vs[j]? = some v → I b (o + j) = some v) → RepRows I b xs o
  | [], _, _, _, _ => trivial
  | e :: r, o, vs, h, hI => by
    simp only [List.flatten_cons] at h
    obtain ⟨us, ws, rfl, h1, h2⟩ := (RepCs_append _ _ _).1 h
    have hl := RepCs_length _ _ h1
    refine ⟨RepRow_of e o us h1 fun j v hv => hI j v (by
        rw [List.getElem?_append_left (by rcases Nat.lt_or_ge j us.length with h' | h'; exact h'; rw [List.getElem?_eq_none h'] at hv; cases hv)]; exact hv),
      RepRows_of r (o + e.length) ws h2 fun j v hv => ?_⟩
    have := hI (us.length + j) v (by rw [List.getElem?_append_right (by omega)]; simpa using hv)
    rwa [hl, ← Nat.add_assoc] at this

section sealing
variable {G : Gl} {cx : Cx} {I : Imm} {β : Nat → Value} {σ : Sto} {w : World}

theorem RelW.slice (h : RelW G cx I β σ w) {d : Nat} {T : TypeId} {sz k : Nat} {xs : List (List AV)} (hd : σ.get d = some (.slice T sz xs k true)) {v : Value} (hv : Rep I β (.own d) v) :
    Rep I β (.lst false xs) v := by
  simp only [Rep] at hv
  obtain ⟨rfl, hs⟩ := hv
  have := h.objs d _ hd
  simp only [ObjRep] at this
  rcases this with h1 | ⟨h1, rfl, _⟩ | ⟨b, cap, arr, h1, h2, h3, h4, h5, h6, h7, h8, h9, h10, h11⟩
  · rw [h1] at hs; simp [isSl] at hs
  · rw [h1]; simp only [Rep, RepC]; exact ⟨none, 0, rfl, by simp, by simp [maxLen], by simp, by simp⟩
  · rw [h1]
    simp only [Rep, RepC]
    refine ⟨_, cap, rfl, h2, h3, by simp, .inr ⟨b, 0, rfl, ?_⟩⟩
    refine RepRows_of xs 0 _ h6 fun j v hv => ?_
    rw [Nat.zero_add]
    rw [List.getElem?_take] at hv
    split at hv
    · rename_i hlt
      rw [h9 trivial j hlt]
      simpa using hv
    · cases hv

mutual
theorem Seal.rep (hw : RelW G cx I β σ w) : ∀ {a r : AV}, Seal σ a r → ∀ v, Rep I β a v → Rep I β r v
  | _, _, .sl0, v, h => by
    simp only [Rep, RepC] at h ⊢
    obtain ⟨a, c, hr, hc⟩ := h
    exact ⟨some a, c, hr, by simp, hc, by simp, by simp⟩
  | _, _, .refl _, _, h => h
  | _, _, .cfn hs hc, v, h => by
    have h1 := Seal.rep hw hs v h
    simp only [Rep, RepC] at h1 ⊢
    obtain ⟨vs, h2, h3⟩ := h1
    exact ⟨vs, h2, RepL.closed _ _ hc h3⟩
  | _, _, .nil f, v, h => by
    simp only [Rep, RepC] at h ⊢
    exact ⟨none, 0, h, by simp, by simp [maxLen], by simp, by simp⟩
  | _, _, .full xs, v, h => by
    simp only [Rep, RepC] at h ⊢
    obtain ⟨a, c, h1, h2, h3, _, h4⟩ := h
    exact ⟨a, c, h1, h2, h3, by simp, h4⟩
  | _, _, .own hd, v, h => hw.slice hd h
  | _, _, .agg hs, v, h => by
    simp only [Rep] at h ⊢
    obtain ⟨vs, h1, h2⟩ := h
    exact ⟨vs, h1, SealL.rep hw hs _ h2⟩
  | _, _, .tup hs, v, h => by
    simp only [Rep] at h ⊢
    obtain ⟨vs, h1, h2⟩ := h
    exact ⟨vs, h1, SealL.rep hw hs _ h2⟩
  | _, _, .fn hs, v, h => by
    simp only [Rep] at h ⊢
    obtain ⟨vs, h1, h2⟩ := h
    exact ⟨vs, h1, SealL.rep hw hs _ h2⟩
  | _, _, .junk _, v, h => by simp [Rep]
theorem SealL.rep (hw : RelW G cx I β σ w) : ∀ {a r : List AV}, SealL σ a r → ∀ vs, RepL I β a vs → RepL I β r vs
  | _, _, .nil, _, h => h
  | _, _, .cons hs ht, vs, h => by
    simp only [RepL] at h ⊢
    obtain ⟨u, us, h1, h2, h3⟩ := h
    exact ⟨u, us, h1, Seal.rep hw hs u h2, SealL.rep hw ht us h3⟩
end

/-- fewer objects are known -/
theorem RelW.sub {σ2 : Sto} (h : RelW G cx I β σ w) (hs : ∀ d o, σ2.get d = some o → σ.get d = some o) : RelW G cx I β σ2 w :=
  { h with objs := fun d o e => h.objs d o (hs d o e),
           sep := fun d d' e e' => by
            obtain ⟨o, e⟩ := Option.isSome_iff_exists.1 e
            obtain ⟨o', e'⟩ := Option.isSome_iff_exists.1 e'
            exact h.sep d d' (by rw [hs d o e]; rfl) (by rw [hs d' o' e']; rfl) }

/-! freezing -/
def AObj.frz : AObj → AObj
  | .slice T sz xs _ _ => .slice T sz xs xs.length true
  | o => o
def Sto.freeze (fz : List Nat) : Sto → Sto
  | [] => []
  | (d, o) :: r => (d, bif fz.contains d then o.frz else o) :: Sto.freeze fz r
theorem Sto.freeze_get (fz : List Nat) : ∀ (σ : Sto) (d : Nat), (Sto.freeze fz σ).get d = (σ.get d).map fun o => if d ∈ fz then o.frz else o
  | [], d => rfl
  | (k, o) :: r, d => by
    simp only [Sto.freeze, Sto.get_cons, Sto.freeze_get fz r d]
    split
    · rename_i h
      subst h
      by_cases hm : k ∈ fz <;> simp [hm]
    · rfl

/-- the cells of one more slice are laid down for good -/
theorem RelW.freeze1 (h : RelW G cx I β σ w) (e : Nat) : ∃ I', ImmLe I I' ∧ RelW G cx I' β (σ.freeze [e]) w := by
  cases he : σ.get e with
  | none =>
    refine ⟨I, ImmLe.refl I, h.sub fun d o hd => ?_⟩
    rw [Sto.freeze_get] at hd
    cases hd' : σ.get d with
    | none => rw [hd'] at hd; cases hd
    | some o' =>
      rw [hd'] at hd
      have : d ∉ [e] := by intro hm; simp at hm; subst hm; rw [he] at hd'; cases hd'
      simp only [Option.map_some, this, if_false] at hd
      exact hd
  | some o =>
    have triv : (∀ o', o.frz = o' → o' = o) → ∃ I', ImmLe I I' ∧ RelW G cx I' β (σ.freeze [e]) w := by
      intro hfr
      refine ⟨I, ImmLe.refl I, h.sub fun d o' hd => ?_⟩
      rw [Sto.freeze_get] at hd
      cases hd' : σ.get d with
      | none => rw [hd'] at hd; cases hd
      | some o2 =>
        rw [hd'] at hd
        simp only [Option.map_some, Option.some.injEq] at hd
        split at hd
        · rename_i hm
          simp at hm
          subst hm
          rw [he] at hd'
          cases hd'
          rw [hfr o' hd]
        · rw [hd]
    cases o with
    | cells T cs => exact triv (fun _ e => e.symm)
    | map K E ents => exact triv (fun _ e => e.symm)
    | slice T sz xs k fz =>
      have ho := h.objs e _ he
      simp only [ObjRep] at ho
      -- the new map of cells
      rcases ho with h1 | ⟨h1, rfl, rfl⟩ | ⟨b, cap, arr, h1, h2, h3, h4, h5, h6, h7, h8, h9, h10, h11⟩
      · refine ⟨I, ImmLe.refl I, { h with objs := fun d o hd => ?_, sep := fun d d' hd hd' => ?_ }⟩
        · rw [Sto.freeze_get] at hd
          cases hd' : σ.get d with
          | none => rw [hd'] at hd; cases hd
          | some o2 =>
            rw [hd'] at hd
            simp only [Option.map_some, Option.some.injEq] at hd
            subst hd
            split
            · rename_i hm
              simp at hm
              subst hm
              rw [he] at hd'
              cases hd'
              exact .inl h1
            · exact h.objs d o2 hd'
        · rw [Sto.freeze_get, Option.isSome_map] at hd hd'
          exact h.sep d d' hd hd'
      · refine ⟨I, ImmLe.refl I, { h with objs := fun d o hd => ?_, sep := fun d d' hd hd' => ?_ }⟩
        · rw [Sto.freeze_get] at hd
          cases hd' : σ.get d with
          | none => rw [hd'] at hd; cases hd
          | some o2 =>
            rw [hd'] at hd
            simp only [Option.map_some, Option.some.injEq] at hd
            subst hd
            split
            · rename_i hm
              simp at hm
              subst hm
              rw [he] at hd'
              cases hd'
              exact .inr (.inl ⟨h1, rfl, rfl⟩)
            · exact h.objs d o2 hd'
        · rw [Sto.freeze_get, Option.isSome_map] at hd hd'
          exact h.sep d d' hd hd'
      · let I' : Imm := fun b' o => if b' = b ∧ o < xs.length * sz then arr[o]? else I b' o
        have hle : ImmLe I I' := fun b' o v hv => by
          show (if b' = b ∧ o < xs.length * sz then arr[o]? else I b' o) = some v
          split
          · rename_i hh
            obtain ⟨rfl, hlt⟩ := hh
            have hc := h.good b' o v hv
            simp only [World.cell?, h4] at hc
            simpa using hc
          · exact hv
        have hother : ∀ b' o, b' ≠ b → I' b' o = I b' o := fun b' o hne => by
          show (if b' = b ∧ o < xs.length * sz then arr[o]? else I b' o) = _
          rw [if_neg (fun hh => hne hh.1)]
        have hblk : blk (β e) = some b := by rw [h1]; rfl
        refine ⟨I', hle, { good := fun b' o v hv => ?_, imono := fun b' o v hv => hle _ _ _ (h.imono _ _ _ hv), iext := fun b' hb hn o => ?_, frame := h.frame, size := h.size, tape := h.tape, os := h.os, output := h.output, objs := fun d o hd => ?_, sep := fun d d' hd hd' => ?_, keep := h.keep }⟩
        · change (if b' = b ∧ o < xs.length * sz then arr[o]? else I b' o) = some v at hv
          split at hv
          · rename_i hh
            obtain ⟨rfl, hlt⟩ := hh
            simp only [World.cell?, h4]
            simpa using hv
          · exact h.good b' o v hv
        · have hne : b' ≠ b := fun e => by
            subst e
            rcases h11 with q | q
            · omega
            · exact hn q
          rw [hother b' o hne]
          exact h.iext b' hb hn o
        · rw [Sto.freeze_get] at hd
          cases hd' : σ.get d with
          | none => rw [hd'] at hd; cases hd
          | some o2 =>
            rw [hd'] at hd
            simp only [Option.map_some, Option.some.injEq] at hd
            subst hd
            by_cases hde : d = e
            · subst hde
              rw [he] at hd'
              cases hd'
              simp only [List.mem_singleton, if_true, AObj.frz, ObjRep]
              refine .inr (.inr ⟨b, cap, arr, h1, h2, h3, h4, h5, RepCs_mono hle _ _ h6, h7, Nat.le_refl _, fun _ o ho => ?_, fun o ho => ?_, h11⟩)
              · show (if b = b ∧ o < xs.length * sz then arr[o]? else I b o) = _
                rw [if_pos ⟨rfl, ho⟩]
              · show (if b = b ∧ o < xs.length * sz then arr[o]? else I b o) = _
                rw [if_neg (fun hh => by omega)]
                exact h10 o (Nat.le_trans (Nat.mul_le_mul_right _ h8) ho)
            · have hm : d ∉ [e] := by simpa using hde
              rw [if_neg hm]
              have hsep : ∀ b', blk (β d) = some b' → b' ≠ b := fun b' hb' e' => by
                subst e'
                exact h.sep d e (by rw [hd']; rfl) (by rw [he]; rfl) hde b' hb' hblk
              have hold := h.objs d o2 hd'
              cases o2 with
              | cells T cs =>
                simp only [ObjRep] at hold ⊢
                rcases hold with q | ⟨b', arr', q1, q2, q3, q4, q5⟩
                · exact .inl q
                · exact .inr ⟨b', arr', q1, q2, RepL_mono hle (HLe.refl _) _ _ q3, fun o => by rw [hother b' o (hsep b' (by rw [q1]; rfl))]; exact q4 o, q5⟩
              | slice T' sz' xs' k' fz' =>
                simp only [ObjRep] at hold ⊢
                rcases hold with q | q | ⟨b', cap', arr', q1, q2, q3, q4, q5, q6, q7, q8, q9, q10, q11⟩
                · exact .inl q
                · exact .inr (.inl q)
                · have hne := hsep b' (by rw [q1]; rfl)
                  exact .inr (.inr ⟨b', cap', arr', q1, q2, q3, q4, q5, RepCs_mono hle _ _ q6, q7, q8, fun hz o ho => by rw [hother b' o hne]; exact q9 hz o ho, fun o ho => by rw [hother b' o hne]; exact q10 o ho, q11⟩)
              | map K E ents =>
                simp only [ObjRep] at hold ⊢
                rcases hold with q | ⟨r, es, clock, q1, q2, q3, q4, q5⟩
                · exact .inl q
                · have hne := hsep r (by rw [q1]; rfl)
                  have entm : ∀ (ents : List (AV × AV)) (es : List MapEntry), EntL I ents es → EntL I' ents es := by
                    intro ents
                    induction ents with
                    | nil => exact fun _ h => h
                    | cons x r ih =>
                      intro es h
                      obtain ⟨kk, vv⟩ := x
                      simp only [EntL] at h ⊢
                      obtain ⟨e', us, r1, r2, r3, r4⟩ := h
                      exact ⟨e', us, r1, RepC_mono hle _ _ r2, RepC_mono hle _ _ r3, ih us r4⟩
                  exact .inr ⟨r, es, clock, q1, q2, entm _ _ q3, fun o => by rw [hother r o hne]; exact q4 o, q5⟩
        · rw [Sto.freeze_get, Option.isSome_map] at hd hd'
          exact h.sep d d' hd hd'

theorem RelW.freezeAll (h : RelW G cx I β σ w) : ∀ fz : List Nat, ∃ I', ImmLe I I' ∧ RelW G cx I' β (σ.freeze fz) w := by
  intro fz
  induction fz generalizing σ I with
  | nil =>
    refine ⟨I, ImmLe.refl I, h.sub fun d o hd => ?_⟩
    rw [Sto.freeze_get] at hd
    simpa using hd
  | cons e r ih =>
    obtain ⟨I1, hle1, h1⟩ := h.freeze1 e
    obtain ⟨I2, hle2, h2⟩ := ih h1
    refine ⟨I2, hle1.trans hle2, h2.sub fun d o hd => ?_⟩
    rw [Sto.freeze_get] at hd
    rw [Sto.freeze_get, Sto.freeze_get]
    cases hd' : σ.get d with
    | none => rw [hd'] at hd; cases hd
    | some o2 =>
      rw [hd'] at hd
      simp only [Option.map_some, Option.some.injEq] at hd ⊢
      rw [← hd]
      have hff : o2.frz.frz = o2.frz := by cases o2 <;> rfl
      by_cases hde : d = e
      · subst hde
        by_cases hr : d ∈ r <;> simp [hr, hff]
      · by_cases hr : d ∈ r <;> simp [hr, hde]
end sealing

theorem Weak.freeze (G : Gl) (env : Env) (σ : Sto) (fz : List Nat) : Weak G env σ env (σ.freeze fz) := fun cx I β a w h h' => by
  obtain ⟨I', hle, h2⟩ := h.freezeAll fz
  exact ⟨I', β, h2, h'.mono hle (HLe.refl β)⟩

/-- drop, seal: every slot and object that is kept -/
theorem Weak.drop {G : Gl} {env env2 : Env} {σ σ2 : Sto} (he : ∀ p ∈ env2, Seal σ (env.get p.1) p.2) (hs : ∀ p ∈ σ2, σ.get p.1 = some p.2) : Weak G env σ env2 σ2 := fun cx I β a w h h' => by
  have mem_get : ∀ (l : Env) t, l.get t = .junk ∨ ∃ p ∈ l, p.1 = t ∧ l.get t = p.2 := by
    intro l
    induction l with
    | nil => exact fun _ => .inl rfl
    | cons x r ih =>
      intro t
      obtain ⟨k, v⟩ := x
      rw [Env.get_cons]
      split
      · rename_i hk; exact .inr ⟨(k, v), by simp, hk, rfl⟩
      · rcases ih t with h | ⟨p, h1, h2, h3⟩
        · exact .inl h
        · exact .inr ⟨p, by simp [h1], h2, h3⟩
  have mem_sto : ∀ (l : Sto) d o, l.get d = some o → ∃ p ∈ l, p.1 = d ∧ p.2 = o := by
    intro l
    induction l with
    | nil => intro d o h; simp [Sto.get] at h
    | cons x r ih =>
      intro d o h
      obtain ⟨k, v⟩ := x
      rw [Sto.get_cons] at h
      split at h
      · rename_i hk; injection h with h; exact ⟨(k, v), by simp, hk, h⟩
      · obtain ⟨p, h1, h2, h3⟩ := ih d o h
        exact ⟨p, by simp [h1], h2, h3⟩
  refine ⟨I, β, h.sub fun d o hd => ?_, fun t => ?_⟩
  · obtain ⟨p, h1, h2, h3⟩ := mem_sto σ2 d o hd
    rw [← h2, ← h3]; exact hs p h1
  · rcases mem_get env2 t with h1 | ⟨p, h1, h2, h3⟩
    · rw [h1]; simp [Rep]
    · rw [h3]
      subst h2
      exact (he p h1).rep h _ (h' p.1)
theorem acode.of {G : Gl} {c : Code} {Q : Exit → Env → Sto → Prop} {env : Env} {σ : Sto} (h : ∀ cx a w, RelA G cx env σ a w → c.wp G.P (fun e a' w' => ∃ env' σ', RelA G cx env' σ' a' w' ∧ Q e env' σ') a w) : acode G c Q env σ := h
theorem acode.use {G : Gl} {c : Code} {Q : Exit → Env → Sto → Prop} {env : Env} {σ : Sto} (h : acode G c Q env σ) (cx : Cx) (a : Act) (w : World) (hr : RelA G cx env σ a w) : c.wp G.P (fun e a' w' => ∃ env' σ', RelA G cx env' σ' a' w' ∧ Q e env' σ') a w := h cx a w hr
attribute [irreducible] acode
end Go.Proofs.Ytggbjbcgfelgiaa
