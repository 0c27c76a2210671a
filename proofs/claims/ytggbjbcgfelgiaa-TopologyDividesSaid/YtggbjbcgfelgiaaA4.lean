/- Renaming and adopting objects; the judgement on calls, how it is proved and how it is used. No condition. -/
import Derived.Test.YtggbjbcgfelgiaaA3
namespace Go.Proofs.Ytggbjbcgfelgiaa
set_option linter.all false
open Go

/-! ### renaming -/
mutual
def AV.ren (r : Nat → Nat) : AV → AV
  | .agg cs => .agg (renL r cs)
  | .tup cs => .tup (renL r cs)
  | .fn f cs => .fn f (renL r cs)
  | .own d => .own (r d)
  | .ptr d o => .ptr (r d) o
  | .mapv d => .mapv (r d)
  | x => x
def renL (r : Nat → Nat) : List AV → List AV
  | [] => []
  | x :: t => x.ren r :: renL r t
end
mutual
theorem Rep_ren {I : Imm} {β β' : Nat → Value} {r : Nat → Nat} {p : Nat → Bool} (h : ∀ d, p d = false → β' (r d) = β d) : ∀ (x : AV) (v : Value), x.refs p = false → Rep I β x v → Rep I β' (x.ren r) v
  | .junk, _, _, _ => trivial
  | .undef, v, _, q => by simp only [Rep, AV.ren] at q ⊢; exact q
  | .int _ _, v, _, q => by simp only [Rep, AV.ren] at q ⊢; exact q
  | .bool _, v, _, q => by simp only [Rep, AV.ren] at q ⊢; exact q
  | .str _, v, _, q => by simp only [Rep, AV.ren] at q ⊢; exact q
  | .lst _ _, v, _, q => by simp only [Rep, AV.ren] at q ⊢; exact q
  | .lptr _, v, _, q => by simp only [Rep, AV.ren] at q ⊢; exact q
  | .nils, v, _, q => by simp only [Rep, AV.ren] at q ⊢; exact q
  | .nilp, v, _, q => by simp only [Rep, AV.ren] at q ⊢; exact q
  | .cfn _ _, v, _, q => by simp only [Rep, AV.ren] at q ⊢; exact q
  | .sl0, v, _, q => by simp only [Rep, AV.ren] at q ⊢; exact q
  | .agg cs, v, e, q => by
      simp only [Rep, AV.ren, AV.refs] at q e ⊢
      obtain ⟨vs, h1, h2⟩ := q
      exact ⟨vs, h1, RepL_ren h cs _ e h2⟩
  | .tup cs, v, e, q => by
      simp only [Rep, AV.ren, AV.refs] at q e ⊢
      obtain ⟨vs, h1, h2⟩ := q
      exact ⟨vs, h1, RepL_ren h cs _ e h2⟩
  | .fn f cs, v, e, q => by
      simp only [Rep, AV.ren, AV.refs] at q e ⊢
      obtain ⟨vs, h1, h2⟩ := q
      exact ⟨vs, h1, RepL_ren h cs _ e h2⟩
  | .own d, v, e, q => by
      simp only [Rep, AV.ren, AV.refs] at q e ⊢
      rw [h d e]; exact q
  | .mapv d, v, e, q => by
      simp only [Rep, AV.ren, AV.refs] at q e ⊢
      rw [h d e]; exact q
  | .ptr d o, v, e, q => by
      simp only [Rep, AV.ren, AV.refs] at q e ⊢
      rw [h d e]; exact q
theorem RepL_ren {I : Imm} {β β' : Nat → Value} {r : Nat → Nat} {p : Nat → Bool} (h : ∀ d, p d = false → β' (r d) = β d) : ∀ (x : List AV) (v : List Value), refsL p x = false → RepL I β x v → RepL I β' (renL r x) v
  | [], _, _, q => q
  | x :: xs, v, e, q => by
      simp only [RepL, renL, refsL, Bool.or_eq_false_iff] at q e ⊢
      obtain ⟨u, us, h1, h2, h3⟩ := q
      exact ⟨u, us, h1, Rep_ren h x u e.1 h2, RepL_ren h xs us e.2 h3⟩
end
def AObj.ren (r : Nat → Nat) : AObj → AObj
  | .cells T cs => .cells T (renL r cs)
  | o => o
def Env.ren (r : Nat → Nat) (env : Env) : Env := env.map fun p => (p.1, p.2.ren r)
def Sto.ren (r : Nat → Nat) (σ : Sto) : Sto := σ.map fun p => (r p.1, p.2.ren r)
theorem Env.ren_get (r : Nat → Nat) : ∀ (env : Env) t, (env.ren r).get t = (env.get t).ren r
  | [], t => by simp [Env.ren, Env.get, AV.ren]
  | (k, v) :: l, t => by
    have := Env.ren_get r l t
    simp only [Env.ren] at this ⊢
    simp only [List.map_cons, Env.get_cons]
    split
    · rfl
    · exact this

/-- the ids a state names all come back by 's' -/
def renOk (r s : Nat → Nat) (ids : List Nat) (env : Env) (σ : Sto) : Bool :=
  env.clean (fun d => !Nat.beq (s (r d)) d) && σ.clean (fun d => !Nat.beq (s (r d)) d) && ids.all (fun d => Nat.beq (s d) d)

theorem Weak.ren {G : Gl} {env : Env} {σ : Sto} (r s : Nat → Nat) (hok : renOk r s G.ids env σ = true) : Weak G env σ (env.ren r) (σ.ren r) := fun cx I β a w h h' => by
  simp only [renOk, Bool.and_eq_true, List.all_eq_true, Nat.beq_eq] at hok
  obtain ⟨⟨h1, h2⟩, h3⟩ := hok
  have hb : ∀ d, (!Nat.beq (s (r d)) d) = false → (fun x => β (s x)) (r d) = β d := fun d hd => by
    have : s (r d) = d := by simpa using hd
    show β (s (r d)) = β d
    rw [this]
  -- an object of the renamed store
  have obj : ∀ d o, (σ.ren r).get d = some o → ∃ d0 o0, σ.get d0 = some o0 ∧ d = r d0 ∧ o = o0.ren r ∧ s (r d0) = d0 ∧ entsRefs (fun d => !Nat.beq (s (r d)) d) o0 = false := by
    intro d o hd
    have key : ∀ (l : Sto), l.clean (fun d => !Nat.beq (s (r d)) d) = true → (Sto.ren r l).get d = some o → ∃ d0 o0, l.get d0 = some o0 ∧ d = r d0 ∧ o = o0.ren r ∧ s (r d0) = d0 ∧ entsRefs (fun d => !Nat.beq (s (r d)) d) o0 = false := by
      intro l
      induction l with
      | nil => intro _ h; simp [Sto.ren, Sto.get] at h
      | cons x t ih =>
        obtain ⟨k, v⟩ := x
        intro hc h
        simp only [Sto.clean, Bool.and_eq_true, Bool.not_eq_true', Bool.not_eq_false'] at hc
        simp only [Sto.ren, List.map_cons, Sto.get_cons] at h
        have hk : s (r k) = k := by simpa using hc.1.1
        split at h
        · rename_i hkd
          cases h
          exact ⟨k, v, by simp [Sto.get_cons], hkd.symm, rfl, hk, hc.1.2⟩
        · rename_i hkd
          obtain ⟨d0, o0, q1, q2, q3, q4, q5⟩ := ih hc.2 h
          refine ⟨d0, o0, ?_, q2, q3, q4, q5⟩
          rw [Sto.get_cons, if_neg]
          · exact q1
          · intro e
            subst e
            exact hkd q2.symm
    exact key σ h2 hd
  refine ⟨I, fun x => β (s x), { h with objs := fun d o hd => ?_, sep := fun d d' hd hd' hne b => ?_, keep := fun d hd => ?_ }, fun t => ?_⟩
  · obtain ⟨d0, o0, q1, rfl, rfl, q4, q5⟩ := obj d o hd
    have ho := h.objs d0 o0 q1
    cases o0 with
    | cells T cs =>
      simp only [ObjRep, AObj.ren, q4] at ho ⊢
      rcases ho with q | ⟨b, arr, e1, e2, e3, e4⟩
      · exact .inl q
      · exact .inr ⟨b, arr, e1, e2, RepL_ren (r := r) hb cs _ q5 e3, e4⟩
    | slice T sz xs k fz => simpa only [ObjRep, AObj.ren, q4] using ho
    | map K E ents => simpa only [ObjRep, AObj.ren, q4] using ho
  · obtain ⟨o, hd⟩ := Option.isSome_iff_exists.1 hd
    obtain ⟨o', hd'⟩ := Option.isSome_iff_exists.1 hd'
    obtain ⟨d0, o0, q1, rfl, _, q4, _⟩ := obj d o hd
    obtain ⟨d1, o1, p1, rfl, _, p4, _⟩ := obj d' o' hd'
    simp only [q4, p4]
    exact h.sep d0 d1 (by rw [q1]; rfl) (by rw [p1]; rfl) (fun e => hne (by rw [e])) b
  · have := h3 d hd
    simp only [this]
    exact h.keep d hd
  · rw [Env.ren_get]
    exact Rep_ren (r := r) hb _ _ (Env.clean_get h1 t) (h' t)

/-! ### a nil slice is an owned one -/
theorem Weak.adopt {G : Gl} {env : Env} {σ : Sto} (t d : Nat) (T : TypeId) (sz : Nat) (hn : env.get t = .nils) (hd : σ.get d = none) (hi : G.ids.contains d = false) (hc : env.clean (Nat.beq d) = true) (hs : σ.clean (Nat.beq d) = true) :
    Weak G env σ ((t, .own d) :: env) ((d, .slice T sz [] 0 false) :: σ) := fun cx I β a w h h' => by
  let β' : Nat → Value := fun x => if x = d then .slice none 0 0 else β x
  have hb : ∀ x, Nat.beq d x = false → β' x = β x := fun x hx => by
    have : x ≠ d := fun e => by subst e; simp at hx
    show (if x = d then _ else β x) = _
    rw [if_neg this]
  have hbd : β' d = .slice none 0 0 := by show (if d = d then _ else _) = _; rw [if_pos rfl]
  refine ⟨I, β', { h with objs := fun x o e => ?_, sep := fun x y ex ey hne b => ?_, keep := fun x hx => ?_ }, fun u => ?_⟩
  · rw [Sto.get_cons] at e
    split at e
    · rename_i hx; subst hx; cases e
      simp only [ObjRep, hbd]
      exact .inr (.inl ⟨trivial, trivial, trivial⟩)
    · obtain ⟨c1, c2⟩ := Sto.clean_get hs x o e
      exact (h.objs x o e).beta hb c1 c2
  · rw [Sto.get_cons] at ex ey
    by_cases hx : d = x
    · subst hx; rw [hbd]; simp [blk]
    · by_cases hy : d = y
      · subst hy; rw [hbd]; simp [blk]
      · rw [if_neg hx] at ex
        rw [if_neg hy] at ey
        rw [hb x (by rw [← Bool.not_eq_true, Nat.beq_eq]; exact hx), hb y (by rw [← Bool.not_eq_true, Nat.beq_eq]; exact hy)]
        exact h.sep x y ex ey hne b
  · have : d ≠ x := fun e => by subst e; simp at hi; exact hi hx
    rw [hb x (by rw [← Bool.not_eq_true, Nat.beq_eq]; exact this)]
    exact h.keep x hx
  · rw [Env.get_cons]
    split
    · rename_i ht
      subst ht
      have := h' t
      rw [hn] at this
      simp only [Rep, RepC] at this
      simp only [Rep, this, hbd, isSl, and_self]
    · exact Rep_beta hb _ _ (Env.clean_get hc u) (h' u)

/-! ### bounds that a representation gives -/
def AV.bnd1 : AV → Prop
  | .lst _ xs => xs.length ≤ maxLen
  | _ => True
def bndL : List AV → Prop
  | [] => True
  | x :: r => x.bnd1 ∧ bndL r
def AV.bnd : AV → Prop
  | .lst _ xs => xs.length ≤ maxLen
  | .agg cs => bndL cs
  | _ => True
def bndA : List AV → Prop
  | [] => True
  | x :: r => x.bnd ∧ bndA r
theorem Rep.bnd1 {I : Imm} {β : Nat → Value} {a : AV} {v : Value} (h : Rep I β a v) : a.bnd1 := by
  cases a <;> simp only [AV.bnd1]
  simp only [Rep, RepC] at h
  obtain ⟨_, _, _, h1, h2, _⟩ := h
  omega
theorem RepL.bnd {I : Imm} {β : Nat → Value} : ∀ {a : List AV} {v : List Value}, RepL I β a v → bndL a
  | [], _, _ => trivial
  | x :: r, _, h => by
    simp only [RepL] at h
    obtain ⟨_, _, _, h1, h2⟩ := h
    exact ⟨h1.bnd1, RepL.bnd h2⟩
theorem Rep.bnd {I : Imm} {β : Nat → Value} {a : AV} {v : Value} (h : Rep I β a v) : a.bnd := by
  cases a <;> simp only [AV.bnd]
  · exact h.bnd1
  · simp only [Rep] at h
    obtain ⟨_, _, h⟩ := h
    exact h.bnd
theorem RepL.bndA {I : Imm} {β : Nat → Value} : ∀ {a : List AV} {v : List Value}, RepL I β a v → bndA a
  | [], _, _ => trivial
  | x :: r, _, h => by
    simp only [RepL] at h
    obtain ⟨_, _, _, h1, h2⟩ := h
    exact ⟨h1.bnd, RepL.bndA h2⟩
theorem A.bnd {G : Gl} {c : Code} {Q : Exit → Env → Sto → Prop} {env : Env} {σ : Sto} (t : Nat) (k : (env.get t).bnd → acode G c Q env σ) : acode G c Q env σ := by
  refine acode.of fun cx a w hr => ?_
  obtain ⟨I, β, h1, h2, h3, h4⟩ := hr
  exact (k (h2 t).bnd).use cx a w ⟨I, β, h1, h2, h3, h4⟩

/-! ### calls -/
def Sto.ids (σ : Sto) : List Nat := σ.map (·.1)

def SCalls (P : Program) (f : FuncId) (σ0 : Sto) (args : List AV) (Post : AV → Sto → Prop) : Prop :=
  ∀ (cx : Cx) (w : World) (I : Imm) (β : Nat → Value) (vs : List Value), RelW ⟨P, 0, σ0.ids⟩ cx I β σ0 w → RepL I β args vs →
    Calls P f vs.toArray w (fun e w' => ∃ v, e = .returned v ∧ ∃ r σ' I' β', Post r σ' ∧ Rep I' β' r v ∧ RelW ⟨P, 0, σ0.ids⟩ cx I' β' σ' w')

theorem SCalls.mono {P : Program} {f : FuncId} {σ0 : Sto} {args : List AV} {Post Post' : AV → Sto → Prop} (h : SCalls P f σ0 args Post) (hp : ∀ r σ', Post r σ' → Post' r σ') : SCalls P f σ0 args Post' :=
  fun cx w I β vs h1 h2 => Calls.mono (h cx w I β vs h1 h2) fun _ _ ⟨v, he, r, σ', I', β', q1, q2, q3⟩ => ⟨v, he, r, σ', I', β', hp _ _ q1, q2, q3⟩

/-- it reads the store, and hands back 'r' -/
def RO (P : Program) (f : FuncId) (σ0 : Sto) (args : List AV) (r : AV) : Prop := SCalls P f σ0 args (fun a σ' => a = r ∧ σ' = σ0)

structure TyS (P : Program) (T : TypeId) (n : Nat) (ag : Bool) : Prop where
  size : ∀ w, (sizeOf T).run P w = .ok n w
  agg : ∀ w, (isAgg T).run P w = .ok ag w

/-- the part of a row of cells that a load of this type takes -/
def ldAV (ag : Bool) (n : Nat) (cs : List AV) : AV := bif ag then .agg (cs.take n) else cs.headD .junk

theorem RepL_drop {I : Imm} {β : Nat → Value} : ∀ (k : Nat) (cs : List AV) (vs : List Value), RepL I β cs vs → RepL I β (cs.drop k) (vs.drop k)
  | 0, _, _, h => by simpa using h
  | k + 1, [], vs, h => by simp only [RepL] at h; subst h; simp [RepL]
  | k + 1, x :: r, vs, h => by
    simp only [RepL] at h
    obtain ⟨u, us, rfl, _, h2⟩ := h
    simpa using RepL_drop k r us h2
theorem RepL_take {I : Imm} {β : Nat → Value} : ∀ (k : Nat) (cs : List AV) (vs : List Value), RepL I β cs vs → RepL I β (cs.take k) (vs.take k)
  | 0, _, _, _ => by simp [RepL]
  | k + 1, [], vs, h => by simp only [RepL] at h; subst h; simp [RepL]
  | k + 1, x :: r, vs, h => by
    simp only [RepL] at h
    obtain ⟨u, us, rfl, h1, h2⟩ := h
    simp only [List.take_succ_cons, RepL]
    exact ⟨u, _, rfl, h1, RepL_take k r us h2⟩

theorem addr_add (b o n : Nat) : Addr.add ⟨b, o, none⟩ n = ⟨b, o + n, none⟩ := by
  unfold Addr.add; split <;> simp_all

theorem run_loadVar_at {P : Program} {T : TypeId} {n : Nat} {ag : Bool} (hT : TyS P T n ag) {w : World} {b off : Nat} {vs : List Value} (h : ∀ j, j < n → ∃ v, vs[j]? = some v ∧ w.cell? ⟨b, off + j, none⟩ = some v) (hn : ag = false → 0 < n) :
    (loadVar T ⟨b, off, none⟩).run P w = .ok (if ag then .agg (vs.take n).toArray else vs.headD undef) w := by
  unfold loadVar
  simp only [Sem.run_bind, hT.agg, Result.andThen_ok]
  cases ag with
  | true =>
    simp only [if_true, Sem.run_bind, hT.size, Result.andThen_ok]
    have : (loadCells ⟨b, off, none⟩ n).run P w = .ok (vs.take n).toArray w := by
      have hlen : (vs.take n).length = n := by
        rw [List.length_take]
        rcases Nat.lt_or_ge vs.length n with hl | hl
        · obtain ⟨v, h1, _⟩ := h vs.length hl
          simp at h1
        · omega
      have key := run_loadCells_list (P := P) w ⟨b, off, none⟩ (vs.take n) (fun j v hv => by
        rw [List.getElem?_take] at hv
        split at hv
        · rename_i hj
          obtain ⟨v', h1, h2⟩ := h j hj
          rw [h1] at hv
          cases hv
          rw [addr_add]; exact h2
        · cases hv)
      rw [hlen] at key
      exact key
    rw [this]
    rfl
  | false =>
    obtain ⟨v, h1, h2⟩ := h 0 (hn rfl)
    simp only [load]
    simp only [Bool.false_eq_true, if_false, Sem.run]
    rw [show (⟨b, off, none⟩ : Addr) = ⟨b, off + 0, none⟩ from rfl, h2]
    cases vs with
    | nil => simp at h1
    | cons x r => simp at h1; subst h1; rfl

/-- what a result reads as -/
inductive ResV (G : Gl) (env : Env) (σ : Sto) : ResultVar → AV → Prop
  | tmp (t : Nat) : ResV G env σ (.tmp t) (env.get t)
  | cell (a T d : Nat) (T' n : Nat) (ag : Bool) (cs : List AV) (ha : env.get a = .ptr d 0) (hd : σ.get d = some (.cells T' cs)) (hT : TyS G.P T n ag) (hn : cs.length = n) (h0 : ag = false → 0 < n) : ResV G env σ (.cell a T) (ldAV ag n cs)

def resOf (tmps : Array Value) : ResultVar → Sem Value
  | .tmp t => pure (tmps.getD t undef)
  | .cell a t => do loadVar t (← asAddr (tmps.getD a undef))

theorem RelW.box {G : Gl} {cx : Cx} {I : Imm} {β : Nat → Value} {σ : Sto} {w : World} (hw : RelW G cx I β σ w) {d : Nat} {T' : TypeId} {cs : List AV} (hd : σ.get d = some (.cells T' cs)) {b : Nat} (hb : blk (β d) = some b) :
    ∃ arr, β d = .pointer (some ⟨b, 0, none⟩) ∧ w.heap[b]? = some (.cells arr T' (0, 0)) ∧ RepL I β cs arr.toList ∧ (∀ o, I b o = none) ∧ Place cx b := by
  have ho := hw.objs d _ hd
  simp only [ObjRep] at ho
  rcases ho with q | ⟨b2, arr, q1, q2, q3, q4, q5⟩
  · rw [q] at hb; simp [blk] at hb
  · have : b2 = b := by rw [q1] at hb; simpa [blk] using hb
    subst this
    exact ⟨arr, q1, q2, q3, q4, q5⟩

theorem run_load_box {P : Program} {T T' : TypeId} {n : Nat} {ag : Bool} (hT : TyS P T n ag) (h0 : ag = false → 0 < n) {I : Imm} {β : Nat → Value} {w : World} {b off : Nat} {arr : Array Value} {cs : List AV} (hb : w.heap[b]? = some (.cells arr T' (0, 0)))
    (hr : RepL I β cs arr.toList) (hn : off + n ≤ cs.length) : ∃ v, (loadVar T ⟨b, off, none⟩).run P w = .ok v w ∧ Rep I β (ldAV ag n (cs.drop off)) v := by
  have hl := RepL_length _ _ hr
  have hcell : ∀ j, j < n → ∃ v, (arr.toList.drop off)[j]? = some v ∧ w.cell? ⟨b, off + j, none⟩ = some v := fun j hj => by
    have hj' : off + j < arr.toList.length := by omega
    refine ⟨arr.toList[off + j], by rw [List.getElem?_drop]; exact List.getElem?_eq_getElem hj', ?_⟩
    simp only [World.cell?, hb]
    simpa using List.getElem?_eq_getElem hj'
  refine ⟨_, run_loadVar_at hT hcell h0, ?_⟩
  have hd := RepL_drop off _ _ hr
  cases ag with
  | true =>
    simp only [ldAV, cond_true, if_true, Rep]
    exact ⟨_, rfl, by simpa using RepL_take n _ _ hd⟩
  | false =>
    simp only [ldAV, cond_false, Bool.false_eq_true, if_false]
    generalize cs.drop off = ds at hd
    cases ds with
    | nil => simp [Rep]
    | cons x r =>
      simp only [RepL] at hd
      obtain ⟨u, us, e, hd, _⟩ := hd
      rw [e]
      exact hd

theorem ResV.run {G : Gl} {env : Env} {σ : Sto} {r : ResultVar} {x : AV} (h : ResV G env σ r x) {cx : Cx} {I : Imm} {β : Nat → Value} {w : World} {a : Act} (hw : RelW G cx I β σ w) (ht : RelT I β env a) :
    ∃ v, Rep I β x v ∧ (resOf a.tmps r).run G.P w = .ok v w := by
  cases h with
  | tmp t => exact ⟨_, ht t, rfl⟩
  | cell b T d T' n ag cs ha hd hT hn h0 =>
    have h1 := ht b
    rw [ha] at h1
    simp only [Rep] at h1
    obtain ⟨b', hb1, hb2⟩ := h1
    obtain ⟨arr, q1, q2, q3, _⟩ := hw.box hd hb1
    obtain ⟨v, r1, r2⟩ := run_load_box hT h0 (off := 0) q2 q3 (by omega)
    refine ⟨v, by simpa using r2, ?_⟩
    simp only [resOf, hb2, asAddr, Sem.run_bind, Sem.run_pure, Result.andThen_ok]
    exact r1

inductive ResL (G : Gl) (env : Env) (σ : Sto) : List ResultVar → AV → Prop
  | zero : ResL G env σ [] (.tup [])
  | one {r : ResultVar} {x : AV} (h : ResV G env σ r x) : ResL G env σ [r] x
  | two {r s : ResultVar} {x y : AV} (h : ResV G env σ r x) (k : ResV G env σ s y) : ResL G env σ [r, s] (.tup [x, y])
  | three {r s t : ResultVar} {x y z : AV} (h : ResV G env σ r x) (k : ResV G env σ s y) (l : ResV G env σ t z) : ResL G env σ [r, s, t] (.tup [x, y, z])

theorem ResL.run {G : Gl} {env : Env} {σ : Sto} {fn : Func} {x : AV} (h : ResL G env σ fn.results.toList x) {cx : Cx} {I : Imm} {β : Nat → Value} {w : World} {a : Act} (hw : RelW G cx I β σ w) (ht : RelT I β env a) :
    ∃ v, Rep I β x v ∧ (results fn a.tmps).run G.P w = .ok v w := by
  generalize hl : fn.results.toList = l at h
  have hr : fn.results = l.toArray := by rw [← hl]
  have he : results fn a.tmps = (do let vs ← l.toArray.mapM (resOf a.tmps); pure (if h : vs.size = 1 then vs[0] else .tuple vs)) := by
    unfold results
    rw [hr]
    rfl
  rw [he]
  cases h with
  | zero => exact ⟨.tuple #[], by simp [Rep, RepL], by simp⟩
  | one h =>
    obtain ⟨v, h1, h2⟩ := h.run hw ht
    refine ⟨v, h1, ?_⟩
    simp [List.mapM_cons, Sem.run_bind, h2]
  | two h k =>
    obtain ⟨v, h1, h2⟩ := h.run hw ht
    obtain ⟨u, k1, k2⟩ := k.run hw ht
    refine ⟨.tuple #[v, u], ?_, ?_⟩
    · simp only [Rep]; exact ⟨_, rfl, v, [u], rfl, h1, u, [], rfl, k1, rfl⟩
    · simp [List.mapM_cons, Sem.run_bind, h2, k2]
  | three h k l =>
    obtain ⟨v, h1, h2⟩ := h.run hw ht
    obtain ⟨u, k1, k2⟩ := k.run hw ht
    obtain ⟨t, l1, l2⟩ := l.run hw ht
    refine ⟨.tuple #[v, u, t], ?_, ?_⟩
    · simp only [Rep]; exact ⟨_, rfl, v, [u, t], rfl, h1, u, [t], rfl, k1, t, [], rfl, l1, rfl⟩
    · simp [List.mapM_cons, Sem.run_bind, h2, k2, l2]

/-! ### a function's body proves its contract -/
def argsEnv : Nat → List AV → Env
  | _, [] => []
  | k, x :: r => (k, x) :: argsEnv (k + 1) r

theorem argsEnv_get {I : Imm} {β : Nat → Value} : ∀ (as : List AV) (vs : List Value) (k t : Nat), RepL I β as vs → Rep I β ((argsEnv k as).get t) (if k ≤ t then vs.getD (t - k) undef else undef) ∨ (argsEnv k as).get t = .junk
  | [], _, _, _, _ => .inr rfl
  | x :: r, vs, k, t, h => by
    simp only [RepL] at h
    obtain ⟨u, us, rfl, h1, h2⟩ := h
    simp only [argsEnv, Env.get_cons]
    split
    · rename_i hk; subst hk; left; simpa using h1
    · rename_i hk
      rcases argsEnv_get r us (k + 1) t h2 with q | q
      · left
        by_cases hlt : k + 1 ≤ t
        · rw [if_pos hlt] at q
          rw [if_pos (by omega), show t - k = (t - (k + 1)) + 1 from by omega, List.getD_cons_succ]
          exact q
        · rw [if_neg hlt] at q
          rw [if_neg (by omega)]
          exact q
      · exact .inr q

def retPost (G : Gl) (fn : Func) (Post : AV → Sto → Prop) : Exit → Env → Sto → Prop
  | .normal, env, σ | .ret, env, σ => ∃ fz x r σ', ResL G env (σ.freeze fz) fn.results.toList x ∧ Seal (σ.freeze fz) x r ∧ (∀ p ∈ σ', (σ.freeze fz).get p.1 = some p.2) ∧ Post r σ'
  | _, _, _ => False

theorem sto_mem : ∀ (l : Sto) d o, l.get d = some o → ∃ p ∈ l, p.1 = d ∧ p.2 = o := by
  intro l
  induction l with
  | nil => intro d o h; simp [Sto.get] at h
  | cons x r ih =>
    intro d o h
    obtain ⟨k, v⟩ := x
    rw [Sto.get_cons] at h
    split at h
    · rename_i hk; injection h with h; exact ⟨(k, v), by simp, hk, h⟩
    · obtain ⟨p, h1, h2, h3⟩ := ih d o h
      exact ⟨p, by simp [h1], h2, h3⟩

theorem SCalls.enter {P : Program} {f : FuncId} {fn : Func} {c : Code} {σ0 : Sto} {args : List AV} {Post : AV → Sto → Prop} (hf : P.funcs[f]? = some fn) (hb : fn.body = some c) (hN : args.length ≤ fn.ntmps)
    (h : bndA args → acode ⟨P, fn.ntmps, σ0.ids⟩ c (retPost ⟨P, fn.ntmps, σ0.ids⟩ fn Post) (argsEnv 0 args) σ0) : SCalls P f σ0 args Post := by
  intro cx w I β vs hw hr
  have hlen := RepL_length _ _ hr
  have hw' : RelW ⟨P, fn.ntmps, σ0.ids⟩ cx I β σ0 w := { hw with }
  refine calls_of_wp hf hb ?_
  refine wp_mono ((h hr.bndA).use cx _ w ⟨I, β, hw', fun t => ?_, ?_, rfl⟩) ?_
  · rcases argsEnv_get args vs 0 t hr with q | q
    · have : ((vs.toArray ++ Array.replicate (fn.ntmps - vs.toArray.size) undef).getD t undef) = vs.getD t undef := by
        rw [Array.getD_eq_getD_getElem?, Array.getElem?_append, List.getD_eq_getElem?_getD]
        split
        · simp
        · rename_i hge
          have : vs[t]? = none := List.getElem?_eq_none (by simpa using hge)
          rw [this, Array.getElem?_replicate]
          split <;> rfl
      rw [this]
      simpa using q
    · rw [q]; simp [Rep]
  · simp
    omega
  · rintro e a' w' ⟨env', σ', ⟨I', β', r1, r2, r3, r4⟩, hq⟩
    have fin : (∃ fz x r σ2, ResL ⟨P, fn.ntmps, σ0.ids⟩ env' (σ'.freeze fz) fn.results.toList x ∧ Seal (σ'.freeze fz) x r ∧ (∀ p ∈ σ2, (σ'.freeze fz).get p.1 = some p.2) ∧ Post r σ2) →
        a'.defers = [] ∧ ∃ v, (results fn a'.tmps).run P w' = .ok v w' ∧ (∃ v1, Ending.returned v = .returned v1 ∧ ∃ r σ' I' β', Post r σ' ∧ Rep I' β' r v1 ∧ RelW ⟨P, 0, σ0.ids⟩ cx I' β' σ' w') := by
      rintro ⟨fz, x, r, σ2, q1, q2, q3, q4⟩
      obtain ⟨I2, hle, hw2⟩ := r1.freezeAll fz
      obtain ⟨v, s1, s2⟩ := q1.run hw2 (r2.mono hle (HLe.refl _))
      refine ⟨r4, v, s2, v, rfl, r, σ2, I2, β', q4, q2.rep hw2 _ s1, ?_⟩
      have := hw2.sub (σ2 := σ2) fun d o hd => by
        obtain ⟨p, p1, p2, p3⟩ := sto_mem σ2 d o hd
        rw [← p2, ← p3]; exact q3 p p1
      exact { this with }
    cases e with
    | normal => exact fin hq
    | ret => exact fin hq
    | exit _ => exact hq.elim
    | goto _ => exact hq.elim
    | panic _ => exact hq.elim
    | outgrown => exact hq.elim
end Go.Proofs.Ytggbjbcgfelgiaa
