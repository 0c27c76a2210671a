/- Whole regions, moves between states, loops and ends, each by one reckoning. No condition but those that stand in each. -/
import Derived.Test.YtggbjbcgfelgiaaB4
namespace Go.Proofs.Ytggbjbcgfelgiaa
set_option linter.all false
open Go

/-! ## moves -/
inductive Mv where
  | fz (ds : List Nat)
  | ad (t d T sz : Nat)
  | ac (d0 d T sz i : Nat)
  | sw (a b : Nat)
  | sc (d0 : Nat) (kp : List Nat)
  | rn (a b : Nat)
def setNth {α : Type} (l : List α) (i : Nat) (x : α) : List α := l.take i ++ x :: l.drop (i + 1)
def mvE (ids : List Nat) (env : Env) (σ : Sto) : Mv → Option (Env × Sto)
  | .fz ds => some (env, σ.freeze ds)
  | .ad t d T sz => match env.find t with
    | some .nils => bif (σ.get d).isNone && !ids.contains d && env.clean (Nat.beq d) && σ.clean (Nat.beq d) then some ((t, .own d) :: env, (d, .slice T sz [] 0 false) :: σ) else none
    | _ => none
  | .ac d0 d T sz i => match σ.get d0 with
    | some (.cells T0 cs) => (match cs.drop i with
      | .nils :: post => bif !Nat.beq d0 d && !ids.contains d && env.clean (Nat.beq d) && σ.clean (Nat.beq d) then some (env, (d, .slice T sz [] 0 false) :: σ.set d0 (.cells T0 (cs.take i ++ .own d :: post))) else none
      | _ => none)
    | _ => none
  | .sw a b => bif renOk (swp a b) (swp a b) ids env σ then some (env.ren (swp a b), σ.ren (swp a b)) else none
  | .rn a b => bif renOk (fun d => bif Nat.beq d a then b else d) (fun d => bif Nat.beq d b then a else d) ids env σ then some (env.ren (fun d => bif Nat.beq d a then b else d), σ.ren (fun d => bif Nat.beq d a then b else d)) else none
  | .sc d0 kp => match σ.get d0 with
    | some (.cells T0 cs) => (match sealEL kp σ cs with | none => none | some cs' => some (env, σ.set d0 (.cells T0 cs')))
    | _ => none
def mvsE (ids : List Nat) : List Mv → Env → Sto → Option (Env × Sto)
  | [], env, σ => some (env, σ)
  | m :: r, env, σ => match mvE ids env σ m with
    | none => none
    | some (e, s) => mvsE ids r e s
theorem mvE_ok {G : Gl} {env env2 : Env} {σ σ2 : Sto} {m : Mv} (h : mvE G.ids env σ m = some (env2, σ2)) : Weak G env σ env2 σ2 := by
  cases m with
  | fz ds => cases h; exact Weak.freeze G env σ ds
  | ad t d T sz =>
    simp only [mvE] at h
    split at h
    · rename_i hn
      generalize hb : ((σ.get d).isNone && _ && _ && _) = bb at h
      cases bb with
      | false => cases h
      | true =>
        cases h
        simp only [Bool.and_eq_true, Bool.not_eq_true', Option.isNone_iff_eq_none] at hb
        exact Weak.adopt t d T sz (Env.find_get hn) hb.1.1.1 hb.1.1.2 hb.1.2 hb.2
    · cases h
  | ac d0 d T sz i =>
    simp only [mvE] at h
    split at h
    · rename_i T0 cs h0
      split at h
      · rename_i post hp
        generalize hb : (!Nat.beq d0 d && _ && _ && _) = bb at h
        cases bb with
        | false => cases h
        | true =>
          cases h
          simp only [Bool.and_eq_true, Bool.not_eq_true'] at hb
          exact Weak.adoptC d0 d T sz T0 (cs.take i) post (by rw [h0, ← hp, List.take_append_drop]) hb.1.1.1 hb.1.1.2 hb.1.2 hb.2
      · cases h
    · cases h
  | sw a b =>
    simp only [mvE] at h
    cases hb : renOk (swp a b) (swp a b) G.ids env σ with
    | false => rw [hb] at h; cases h
    | true => rw [hb] at h; cases h; exact Weak.ren _ _ hb
  | rn a b =>
    simp only [mvE] at h
    generalize hb : renOk _ _ _ _ _ = bb at h
    cases bb with
    | false => cases h
    | true => cases h; exact Weak.ren _ _ hb
  | sc d0 kp =>
    simp only [mvE] at h
    split at h
    · rename_i T0 cs h0
      split at h
      · cases h
      · rename_i cs' hs
        cases h
        refine fun cx I β a w hw ht => ⟨I, β, ?_, ht⟩
        have hsl := sealEL_ok hs
        refine { hw with objs := fun d o hd => ?_, sep := fun d d' hd hd' hne b => ?_ }
        · rw [Sto.set_get] at hd
          split at hd
          · rename_i hdd
            subst hdd
            rw [h0] at hd
            simp only [Option.map_some, Option.some.injEq] at hd
            subst hd
            have := hw.objs d _ h0
            simp only [ObjRep] at this ⊢
            rcases this with h1 | ⟨b, arr, h1, h2, h3, h4⟩
            · exact .inl h1
            · exact .inr ⟨b, arr, h1, h2, hsl.rep hw _ h3, h4⟩
          · exact hw.objs d o hd
        · have key : ∀ x, ((σ.set d0 (.cells T0 cs')).get x).isSome → (σ.get x).isSome := fun x hx => by
            rw [Sto.set_get] at hx
            split at hx
            · rename_i he; subst he; rw [h0]; rfl
            · exact hx
          exact hw.sep d d' (key d hd) (key d' hd') hne b
    · cases h
theorem mvsE_ok {G : Gl} : ∀ {ms : List Mv} {env env2 : Env} {σ σ2 : Sto}, mvsE G.ids ms env σ = some (env2, σ2) → Weak G env σ env2 σ2
  | [], env, _, σ, _, h => by cases h; exact Weak.refl G env σ
  | m :: r, env, env2, σ, σ2, h => by
    simp only [mvsE] at h
    split at h
    · cases h
    · rename_i e s hm; exact (mvE_ok hm).trans (mvsE_ok h)
def keepE (sl : List Nat) (kp : List Nat) (σ : Sto) (env : Env) : List Nat → Option Env
  | [] => some []
  | k :: r => match env.find k with
    | none => none
    | some a => match (bif sl.any (Nat.beq k) then sealE kp σ a else some a) with
      | none => none
      | some b => match keepE sl kp σ env r with
        | none => none
        | some l => some ((k, b) :: l)
theorem keepE_ok {sl : List Nat} {kp : List Nat} {σ : Sto} {env : Env} : ∀ {ks : List Nat} {env2 : Env}, keepE sl kp σ env ks = some env2 → AllSeal σ env env2
  | [], env2, h => by cases h; trivial
  | k :: r, env2, h => by
    simp only [keepE] at h
    split at h
    · cases h
    · rename_i a ha
      split at h
      · cases h
      · rename_i b hb
        split at h
        · cases h
        · rename_i l hl
          cases h
          refine ⟨?_, keepE_ok hl⟩
          rw [Env.find_get ha]
          cases hs : sl.any (Nat.beq k) with
          | false => rw [hs] at hb; cases hb; exact .refl _
          | true => rw [hs] at hb; exact sealE_ok hb
def weakE (ids : List Nat) (ms : List Mv) (sl : List Nat) (ks ds : List Nat) (env : Env) (σ : Sto) : Option (Env × Sto) := match mvsE ids ms env σ with
  | none => none
  | some (e, s) => match keepE sl ds s e ks with
    | none => none
    | some e2 => match s.at ds with
      | none => none
      | some s2 => some (e2, s2)
theorem weakE_ok {G : Gl} {ms : List Mv} {sl : List Nat} {ks ds : List Nat} {env env2 : Env} {σ σ2 : Sto} (h : weakE G.ids ms sl ks ds env σ = some (env2, σ2)) : Weak G env σ env2 σ2 := by
  simp only [weakE] at h
  split at h
  · cases h
  · rename_i e s hm
    split at h
    · cases h
    · rename_i e2 hk
      split at h
      · cases h
      · rename_i s2 hs
        cases h
        exact (mvsE_ok hm).trans (Weak.of (keepE_ok hk) (Sto.at_sub hs).1)
abbrev keysE (e : Env) : List Nat := e.map (·.1)
/-- from a state to another one, that is written out -/
theorem Weak.go {G : Gl} {env env2 : Env} {σ σ2 : Sto} (ms : List Mv) (sl : List Nat) (h : weakE G.ids ms sl (keysE env2) σ2.ids env σ = some (env2, σ2)) : Weak G env σ env2 σ2 := weakE_ok h

/-! ## regions -/
def wantE (ops : Array Oper) (o : Oper) (env : Env) : Option Bool := match o.guard with
  | none => some true
  | some (j, want) => match ops[j]? with
    | none => none
    | some oj => match oj.dst with
      | none => none
      | some dj => match env.find dj with
        | some (.bool true) => some want
        | some (.bool false) => some (!want)
        | some .undef => some false
        | _ => none
theorem wantE_t {ops : Array Oper} {o : Oper} {env : Env} (h : wantE ops o env = some true) : Want ops o env := by
  unfold wantE at h
  split at h
  · exact Want.n ‹_›
  · rename_i j want hg
    split at h
    · cases h
    · rename_i oj hj
      split at h
      · cases h
      · rename_i dj hd
        split at h
        · rename_i he; cases h; exact Want.g hg hj hd (Env.find_get he) rfl
        · rename_i he
          simp only [Option.some.injEq, Bool.not_eq_true'] at h
          subst h
          exact Want.g hg hj hd (Env.find_get he) rfl
        · cases h
        · cases h
theorem wantE_f {ops : Array Oper} {o : Oper} {env : Env} (h : wantE ops o env = some false) : Skip ops o env := by
  unfold wantE at h
  split at h
  · cases h
  · rename_i j want hg
    split at h
    · cases h
    · rename_i oj hj
      split at h
      · cases h
      · rename_i dj hd
        split at h
        · rename_i he; cases h; exact Skip.g hg hj hd (Env.find_get he) rfl
        · rename_i he
          simp only [Option.some.injEq, Bool.not_eq_false'] at h
          subst h
          exact Skip.g hg hj hd (Env.find_get he) rfl
        · rename_i he; exact Skip.undef hg hj hd (Env.find_get he)
        · cases h
def runP {P : Program} (tb : Tb) (ids : List Nat) (ops : Array Oper) (s : Sch) : List (Nat × Hint P) → List (Nat × List Nat) → Env → Sto → Option (Env × Sto × List Obs)
  | [], _, env, σ => some (env, σ, [])
  | (i, h) :: r, log, env, σ => match ops[i]? with
    | none => none
    | some o => match wantE ops o env with
      | none => none
      | some false => (match runP tb ids ops s r (bif isP s i then (i, []) :: log else log) (env.put o.dst .undef) σ with
        | none => none
        | some (e, s', obs) => some (e, s', ([], []) :: obs))
      | some true => match stepH tb ids o env σ h with
        | none => none
        | some (.y R av, ob) => bif !isP s i || allIn σ R then (match runP tb ids ops s r (bif isP s i then (i, R) :: log else log) (env.put o.dst av) σ with
          | none => none
          | some (e, s', obs) => some (e, s', ob :: obs)) else none
        | some (.v d ob' av, ob) => bif isP s i && env.clean [d].contains && σ.clean [d].contains then (match runP tb ids ops s r ((i, [d]) :: log) (env.put o.dst av) ((d, ob') :: σ) with
          | none => none
          | some (e, s', obs) => some (e, s', ob :: obs)) else none
        | some (.e M news av σ', ob) => bif isE s i && (!s.dr || logOk s i M log) && env.clean news.contains && news.all (fun d => (σ.get d).isNone) then (match runP tb ids ops s r log (env.put o.dst av) σ' with
          | none => none
          | some (e, s', obs) => some (e, s', ob :: obs)) else none
theorem isE_of {s : Sch} {i : Nat} (h : isP s i = false) : isE s i = true := by
  unfold isP at h; unfold isE
  cases hd : s.dr <;> simp_all
theorem runP_ok {P : Program} {tb : Tb} {N : Nat} {ids : List Nat} {ops : Array Oper} {s : Sch} {K : Env → Sto → Prop} (W : Wld P tb) : ∀ {pl : List (Nat × Hint P)} {log : List (Nat × List Nat)} {env env1 : Env} {σ σ1 : Sto} {obs : List Obs},
    runP tb ids ops s pl log env σ = some (env1, σ1, obs) → obs = pl.map (fun p => p.2.exp) → K env1 σ1 → Cert ⟨P, N, ids⟩ ops s log (pl.map (·.1)) env σ K
  | [], log, env, env1, σ, σ1, obs, h, _, k => by cases h; exact C.nil k
  | (i, hi) :: r, log, env, env1, σ, σ1, obs, h, he, k => by
    simp only [runP] at h
    split at h
    · cases h
    · rename_i o ho
      split at h
      · cases h
      · rename_i hw
        split at h
        · cases h
        · rename_i e s' obs' hr
          cases h
          simp only [List.map_cons, List.cons.injEq] at he ⊢
          cases hp : isP s i with
          | true => rw [hp] at hr; exact C.skip ho (wantE_f hw) hp (runP_ok W hr he.2 k)
          | false => rw [hp] at hr; exact C.eskip ho (wantE_f hw) (isE_of hp) (runP_ok W hr he.2 k)
      · rename_i hw
        split at h
        · cases h
        · rename_i R av ob hs
          generalize hb : (!isP s i || _) = bb at h
          cases bb with
          | false => cases h
          | true =>
            simp only [cond_true] at h
            split at h
            · cases h
            · rename_i e s' obs' hr
              cases h
              simp only [List.map_cons, List.cons.injEq] at he ⊢
              have hY := stepH_ok (N := N) W hs he.1
              cases hp : isP s i with
              | true =>
                rw [hp] at hr hb
                exact C.y ho (wantE_t hw) hp (by simpa using hb) hY (runP_ok W hr he.2 k)
              | false =>
                rw [hp] at hr
                exact C.ey ho (wantE_t hw) (isE_of hp) hY (runP_ok W hr he.2 k)
        · rename_i d ob' av ob hs
          generalize hb : (isP s i && _ && _) = bb at h
          cases bb with
          | false => cases h
          | true =>
            simp only [cond_true] at h
            simp only [Bool.and_eq_true] at hb
            split at h
            · cases h
            · rename_i e s' obs' hr
              cases h
              simp only [List.map_cons, List.cons.injEq] at he ⊢
              have hY := stepH_ok (N := N) W hs he.1
              exact C.v ho (wantE_t hw) hb.1.1 hY.1 hb.1.2 hb.2 hY.2 (runP_ok W hr he.2 k)
        · rename_i M news av σ' ob hs
          generalize hb : (isE s i && _ && _ && _) = bb at h
          cases bb with
          | false => cases h
          | true =>
            simp only [cond_true] at h
            simp only [Bool.and_eq_true] at hb
            split at h
            · cases h
            · rename_i e s' obs' hr
              cases h
              simp only [List.map_cons, List.cons.injEq] at he ⊢
              have hY := stepH_ok (N := N) W hs he.1
              refine C.e ho (wantE_t hw) hb.1.1.1 hY.1 hb.1.1.2 hb.1.2 ?_ (fun a s2 hh => ?_)
              · rw [List.all_eq_true]
                intro d hd
                rw [Bool.and_eq_true]
                exact ⟨List.all_eq_true.1 hY.2 d hd, List.all_eq_true.1 hb.2 d hd⟩
              · obtain ⟨rfl, rfl⟩ := hh
                exact runP_ok W hr he.2 k

/-! the order in which a region is run through -/
def addN (l : List Nat) (n : Nat) : List Nat := bif l.any (Nat.beq n) then l else n :: l
def tclE (ops : List Oper) : List (List Nat) :=
  (ops.foldl (fun (T : List (List Nat)) o => (o.after.toList.foldl (fun w e => bif Region.binds .any e then (T.getD (T.length - 1 - e.on) []).foldl addN (addN w e.on) else w) []) :: T) []).reverse
def Hint.eff {P : Program} : Hint P → Bool
  | .dc .. | .ap .. => true
  | _ => false
def opEff : Op → Bool
  | .assign _ | .store .. | .mapUpdate .. | .insert .. | .entryStore .. | .makeSlice .. => true
  | _ => false
def hintOf {P : Program} (hs : List (Nat × Hint P)) (i : Nat) : Hint P := match hs with
  | [] => .au
  | (k, h) :: r => bif Nat.beq k i then h else hintOf r i
def effsE {P : Program} (hs : List (Nat × Hint P)) : Nat → List Oper → List Nat
  | _, [] => []
  | i, o :: r => bif opEff o.op || (hintOf hs i).eff then i :: effsE hs (i + 1) r else effsE hs (i + 1) r
def pickE (T : List (List Nat)) (es left : List Nat) : List Nat → Option Nat → Option Nat
  | [], f => f
  | i :: r, f => bif (T.getD i []).any (fun j => left.any (Nat.beq j)) then pickE T es left r f
      else bif es.any (Nat.beq i) then pickE T es left r (match f with | none => some i | some x => some x) else some i
def orderE (T : List (List Nat)) (es : List Nat) : Nat → List Nat → List Nat
  | 0, _ => []
  | n + 1, left => match pickE T es left left none with
    | none => []
    | some i => i :: orderE T es n (left.filter fun j => !Nat.beq i j)
def schE {P : Program} (ops : Array Oper) (dr : Bool) (hs : List (Nat × Hint P)) : Sch × List Nat :=
  bif dr then
    let T := tclE ops.toList
    let es := effsE hs 0 ops.toList
    (⟨true, T, es⟩, orderE T es ops.size (List.range ops.size))
  else (⟨false, [], []⟩, List.range ops.size)
def okE (N : Nat) (ops : Array Oper) (dr : Bool) (s : Sch) (l : List Nat) : Bool := bif dr then s.dr && schOk N ops s l else !s.dr && s.T.isEmpty && s.es.isEmpty && dstOk N ops
def regE {P : Program} (tb : Tb) (N : Nat) (ids : List Nat) (ops : Array Oper) (dr : Bool) (s : Sch) (l : List Nat) (ms : List Mv) (hs : List (Nat × Hint P)) (ks ds : List Nat) (env : Env) (σ : Sto) : Option (Env × Sto × List Obs) :=
  bif okE N ops dr s l then
    (match mvsE ids ms env σ with
    | none => none
    | some (e0, s0) => match runP tb ids ops s (l.map fun i => (i, hintOf hs i)) [] e0 s0 with
      | none => none
      | some (e1, s1, obs) => match keepE [] ds s1 e1 ks with
        | none => none
        | some e2 => match s1.at ds with
          | none => none
          | some s2 => some (e2, s2, obs))
  else none
section code
variable {P : Program} {N : Nat} {ids : List Nat} {tb : Tb} {env : Env} {σ : Sto} {Q : Exit → Env → Sto → Prop} {x y c : Code}
theorem A.R (W : Wld P tb) {id : Nat} {ops : Array Oper} {dr : Bool} (ms : List Mv) (hs : List (Nat × Hint P)) (env2 : Env) (σ2 : Sto)
    (h : regE tb N ids ops dr (schE ops dr hs).1 (schE ops dr hs).2 ms hs (keysE env2) σ2.ids env σ = some (env2, σ2, (schE ops dr hs).2.map fun i => (hintOf hs i).exp)) (k : Q .normal env2 σ2) : acode ⟨P, N, ids⟩ (.region id ops dr) Q env σ := by
  generalize hsl : schE ops dr hs = sl at h
  obtain ⟨s, l⟩ := sl
  simp only [regE] at h
  cases hok : okE N ops dr s l with
  | false => rw [hok] at h; cases h
  | true =>
    rw [hok] at h
    simp only [cond_true] at h
    split at h
    · cases h
    · rename_i e0 s0 hm
      split at h
      · cases h
      · rename_i e1 s1 obs hr
        split at h
        · cases h
        · rename_i e2 hk
          split at h
          · cases h
          · rename_i s2 hs2
            simp only [Option.some.injEq, Prod.mk.injEq] at h
            obtain ⟨rfl, rfl, ho⟩ := h
            refine A.weak (mvsE_ok hm) ?_
            have hc : ∀ K : Env → Sto → Prop, K e1 s1 → Cert ⟨P, N, ids⟩ ops s [] l e0 s0 K := fun K hK => by
              have := runP_ok (N := N) (K := K) W hr (by rw [ho, List.map_map]; rfl) hK
              rw [List.map_map, show ((fun x : Nat × Hint P => x.1) ∘ fun i => (i, hintOf hs i)) = fun i => i from rfl, List.map_id'] at this
              exact this
            refine A.late ?_
            have hfin : ∃ env2 σ2, Weak ⟨P, N, ids⟩ e1 s1 env2 σ2 ∧ Q .normal env2 σ2 := ⟨e2, s2, Weak.of (keepE_ok hk) (Sto.at_sub hs2).1, k⟩
            cases dr with
            | false =>
              simp only [okE, cond_false, Bool.and_eq_true, Bool.not_eq_true', List.isEmpty_iff] at hok
              have hs0 : s = ⟨false, [], []⟩ := by
                obtain ⟨a, b, c⟩ := s
                simp only at hok
                obtain ⟨⟨⟨h1, h2⟩, h3⟩, h4⟩ := hok
                subst h1 h2 h3; rfl
              have hl : l = List.range ops.size := by
                have := congrArg Prod.snd hsl
                simpa [schE] using this.symm
              subst hs0 hl
              exact A.region hok.2 (hc _ hfin)
            | true =>
              simp only [okE, cond_true, Bool.and_eq_true] at hok
              obtain ⟨dr', T, es⟩ := s
              obtain ⟨h1, h2⟩ := hok
              simp only at h1
              subst h1
              exact A.any T es l W.mix h2 (hc _ hfin)
theorem A.RS (W : Wld P tb) {id : Nat} {ops : Array Oper} {dr : Bool} (ms : List Mv) (hs : List (Nat × Hint P)) (env2 : Env) (σ2 : Sto)
    (h : regE tb N ids ops dr (schE ops dr hs).1 (schE ops dr hs).2 ms hs (keysE env2) σ2.ids env σ = some (env2, σ2, (schE ops dr hs).2.map fun i => (hintOf hs i).exp)) (k : acode ⟨P, N, ids⟩ y Q env2 σ2) : acode ⟨P, N, ids⟩ (.seq (.region id ops dr) y) Q env σ :=
  A.seq (A.R W ms hs env2 σ2 h k)
theorem A.cT {G : Gl} {o : Operand} {p : Bool} (hc : env.evo o = some (.bool p)) (hp : p = true) (k : acode G x Q env σ) : acode G (.cond o x y) Q env σ := A.cond (Env.evo_ev hc) (fun _ => k) (fun hf => by rw [hp] at hf; cases hf)
theorem A.cF {G : Gl} {o : Operand} {p : Bool} (hc : env.evo o = some (.bool p)) (hp : p = false) (k : acode G y Q env σ) : acode G (.cond o x y) Q env σ := A.cond (Env.evo_ev hc) (fun ht => by rw [hp] at ht; cases ht) (fun _ => k)
/-- ways that meet again -/
theorem A.J {G : Gl} {α ρ : Type} {J : α → Option ρ} {r : ρ} (envOf : α → Env) (stOf : α → Sto)
    (h : acode G x (thenA (fun env' σ' => ∃ g, J g = some r ∧ Weak G env' σ' (envOf g) (stOf g)) Q) env σ) (k : ∀ g, J g = some r → acode G y Q (envOf g) (stOf g)) : acode G (.seq x y) Q env σ := by
  refine A.seq (h.mono ?_)
  intro e env' σ' hq
  cases e with
  | normal =>
    obtain ⟨g, hg, hw⟩ := hq
    exact A.weak hw (k g hg)
  | _ => exact hq
/-- a loop along a list -/
theorem A.lpI {G : Gl} {α S ρ : Type} {l : List α} {B : Int → α → (S → Option ρ) → S → Option ρ} {K : S → Option ρ} {s0 : S} {j0 : Nat} {r : ρ} (hm : forI (l.drop j0) j0 B K s0 = some r) (envOf : Nat → S → Env) (stOf : Nat → S → Sto)
    (hw : Weak G env σ (envOf j0 s0) (stOf j0 s0))
    (hin : ∀ (j : Nat) (x : α) (Z : S → Option ρ) (s : S), j0 ≤ j → l[j]? = some x → B j x Z s = some r → acode G c (thenA (fun env' σ' => ∃ s', Z s' = some r ∧ Weak G env' σ' (envOf (j + 1) s') (stOf (j + 1) s')) Q) (envOf j s) (stOf j s))
    (hout : ∀ (j : Nat) (s : S), j0 ≤ j → l.length ≤ j → K s = some r → acode G c (thenA (fun _ _ => False) Q) (envOf j s) (stOf j s)) : acode G (.loop c) Q env σ := by
  refine A.loop (α := Nat × S) (fun g => envOf g.1 g.2) (fun g => stOf g.1 g.2) (fun g => j0 ≤ g.1 ∧ forI (l.drop g.1) g.1 B K g.2 = some r) (fun g => l.length - g.1) (j0, s0) ⟨Nat.le_refl _, hm⟩ hw ?_
  rintro ⟨j, s⟩ ⟨hj, hf⟩
  simp only at hj hf ⊢
  by_cases hlt : j < l.length
  · have hx : l[j]? = some l[j] := List.getElem?_eq_getElem hlt
    rw [List.drop_eq_getElem_cons hlt] at hf
    refine (hin j l[j] (forI (l.drop (j + 1)) (j + 1) B K) s hj hx hf).mono ?_
    intro e env' σ' hq
    cases e with
    | normal =>
      obtain ⟨s', h1, h2⟩ := hq
      exact ⟨(j + 1, s'), ⟨by omega, h1⟩, by show l.length - (j + 1) < l.length - j; omega, h2⟩
    | _ => exact hq
  · rw [List.drop_eq_nil_of_le (by omega)] at hf
    refine (hout j s hj (by omega) hf).mono ?_
    intro e env' σ' hq
    cases e with
    | normal => exact hq.elim
    | _ => exact hq
/-- a loop along numbers -/
theorem A.lpN {G : Gl} {S ρ : Type} {n0 : Nat} {i0 hi : Int} {B : Int → (S → Option ρ) → S → Option ρ} {K : Int → S → Option ρ} {s0 : S} {r : ρ} (hm : forN n0 i0 B K s0 = some r) (hn : n0 = (hi - i0).toNat) (envOf : Int → S → Env) (stOf : Int → S → Sto)
    (hw : Weak G env σ (envOf i0 s0) (stOf i0 s0))
    (hin : ∀ (i : Int) (Z : S → Option ρ) (s : S), i0 ≤ i → i < hi → B i Z s = some r → acode G c (thenA (fun env' σ' => ∃ s', Z s' = some r ∧ Weak G env' σ' (envOf (i + 1) s') (stOf (i + 1) s')) Q) (envOf i s) (stOf i s))
    (hout : ∀ (i : Int) (s : S), i0 ≤ i → hi ≤ i → K i s = some r → acode G c (thenA (fun _ _ => False) Q) (envOf i s) (stOf i s)) : acode G (.loop c) Q env σ := by
  refine A.loop (α := Nat × Int × S) (fun g => envOf g.2.1 g.2.2) (fun g => stOf g.2.1 g.2.2) (fun g => i0 ≤ g.2.1 ∧ g.1 = (hi - g.2.1).toNat ∧ forN g.1 g.2.1 B K g.2.2 = some r) (fun g => g.1) (n0, i0, s0) ⟨Int.le_refl _, hn, hm⟩ hw ?_
  rintro ⟨n, i, s⟩ ⟨hj, hn, hf⟩
  simp only at hj hn hf ⊢
  cases n with
  | zero =>
    refine (hout i s hj (by omega) hf).mono ?_
    intro e env' σ' hq
    cases e with
    | normal => exact hq.elim
    | _ => exact hq
  | succ n =>
    refine (hin i (forN n (i + 1) B K) s hj (by omega) hf).mono ?_
    intro e env' σ' hq
    cases e with
    | normal =>
      obtain ⟨s', h1, h2⟩ := hq
      exact ⟨(n, i + 1, s'), ⟨by show i0 ≤ i + 1; omega, by show n = (hi - (i + 1)).toNat; omega, h1⟩, by show n < n + 1; omega, h2⟩
    | _ => exact hq
/-- any other loop -/
theorem A.lpW {G : Gl} {S ρ : Type} {F : (S → Option ρ) → S → Option ρ} {n0 : Nat} {s0 : S} {r : ρ} (hm : iter F n0 s0 = some r) (envOf : S → Env) (stOf : S → Sto) (hw : Weak G env σ (envOf s0) (stOf s0))
    (hin : ∀ (Z : S → Option ρ) (s : S), F Z s = some r → acode G c (thenA (fun env' σ' => ∃ s', Z s' = some r ∧ Weak G env' σ' (envOf s') (stOf s')) Q) (envOf s) (stOf s)) : acode G (.loop c) Q env σ := by
  refine A.loop (α := Nat × S) (fun g => envOf g.2) (fun g => stOf g.2) (fun g => iter F g.1 g.2 = some r) (fun g => g.1) (n0, s0) hm hw ?_
  rintro ⟨n, s⟩ hf
  cases n with
  | zero => cases hf
  | succ n =>
    refine (hin (iter F n) s hf).mono ?_
    intro e env' σ' hq
    cases e with
    | normal =>
      obtain ⟨s', h1, h2⟩ := hq
      exact ⟨(n, s'), h1, by show n < n + 1; omega, h2⟩
    | _ => exact hq
/-- how long lists can be, those in their rows too -/
theorem RepRow_mem {I : Imm} {b : Nat} : ∀ {e : List AV} {o : Nat} {x : AV}, RepRow I b e o → x ∈ e → ∃ u, RepC I x u
  | [], _, _, _, h => by simp at h
  | y :: r, o, x, hr, h => by
    simp only [RepRow] at hr
    rcases List.mem_cons.1 h with rfl | h
    · obtain ⟨u, _, h2⟩ := hr.1; exact ⟨u, h2⟩
    · exact RepRow_mem hr.2 h
theorem RepRows_mem {I : Imm} {b : Nat} : ∀ {xs : List (List AV)} {o : Nat} {e : List AV}, RepRows I b xs o → e ∈ xs → ∃ o, RepRow I b e o
  | [], _, _, _, h => by simp at h
  | y :: r, o, x, hr, h => by
    simp only [RepRows] at hr
    rcases List.mem_cons.1 h with rfl | h
    · exact ⟨o, hr.1⟩
    · exact RepRows_mem hr.2 h
theorem RepCs_mem {I : Imm} : ∀ {e : List AV} {vs : List Value} {x : AV}, RepCs I e vs → x ∈ e → ∃ u, RepC I x u
  | [], _, _, _, h => by simp at h
  | y :: r, vs, x, hr, h => by
    simp only [RepCs] at hr
    obtain ⟨u, us, _, h1, h2⟩ := hr
    rcases List.mem_cons.1 h with rfl | h
    · exact ⟨u, h1⟩
    · exact RepCs_mem h2 h
theorem RepC.LB {I : Imm} : ∀ (n : Nat) (f : Bool) (xs : List (List AV)) (v : Value), RepC I (.lst f xs) v → LBn n xs
  | 0, f, xs, v, h => by
    simp only [RepC] at h
    obtain ⟨a, c, _, h1, h2, _⟩ := h
    exact Nat.le_trans h1 h2
  | n + 1, f, xs, v, h => by
    simp only [RepC] at h
    obtain ⟨a, c, _, h1, h2, _, h3⟩ := h
    refine ⟨Nat.le_trans h1 h2, fun e he g ys hy => ?_⟩
    rcases h3 with rfl | ⟨b, o, _, h4⟩
    · simp at he
    · obtain ⟨o', h5⟩ := RepRows_mem h4 he
      obtain ⟨u, h6⟩ := RepRow_mem h5 hy
      exact RepC.LB n g ys u h6
theorem Rep.LB {I : Imm} {β : Nat → Value} {f : Bool} {xs : List (List AV)} {v : Value} (h : Rep I β (.lst f xs) v) : LB xs := fun n => RepC.LB n f xs v (by simpa only [Rep] using h)
theorem RepL.LB {I : Imm} {β : Nat → Value} {f : Bool} {xs : List (List AV)} : ∀ {cs : List AV} {vs : List Value} {i : Nat}, RepL I β cs vs → cs[i]? = some (.lst f xs) → LB xs := fun h hi => by
  obtain ⟨v, _, h2⟩ := RepL_get h hi
  exact Rep.LB h2
theorem own_LB {G : Gl} {cx : Cx} {I : Imm} {β : Nat → Value} {σ : Sto} {w : World} (hw : RelW G cx I β σ w) {d : Nat} {T sz k : Nat} {fz : Bool} {xs : List (List AV)} (hd : σ.get d = some (.slice T sz xs k fz)) {v : Value} (hv : Rep I β (.own d) v) : LB xs := by
  obtain ⟨a, c, _, q1, q2⟩ := own_handle hw hd hv
  intro n
  cases n with
  | zero => exact Nat.le_trans q1 q2
  | succ n =>
    refine ⟨Nat.le_trans q1 q2, fun e he g ys hy => ?_⟩
    simp only [Rep] at hv
    have := hw.objs d _ hd
    simp only [ObjRep] at this
    rcases this with h1 | ⟨_, rfl, _⟩ | ⟨b, cap, arr, _, _, _, _, _, h6, _⟩
    · rw [hv.1, h1] at hv; simp [isSl] at hv
    · simp at he
    · obtain ⟨u, h7⟩ := RepCs_mem h6 (List.mem_flatten.2 ⟨e, he, hy⟩)
      exact RepC.LB n g ys u h7
theorem A.bS {G : Gl} {f : Bool} {xs : List (List AV)} (t : Nat) (h : env.find t = some (.lst f xs)) (k : LB xs → acode G c Q env σ) : acode G c Q env σ := by
  refine acode.of fun cx a w hr => ?_
  obtain ⟨I, β, h1, h2, h3, h4⟩ := hr
  have hv := h2 t
  rw [Env.find_get h] at hv
  exact (k (Rep.LB hv)).use cx a w ⟨I, β, h1, h2, h3, h4⟩
theorem A.bA {G : Gl} {f : Bool} {cs : List AV} {xs : List (List AV)} (t i : Nat) (h : env.find t = some (.agg cs)) (hi : cs[i]? = some (.lst f xs)) (k : LB xs → acode G c Q env σ) : acode G c Q env σ := by
  refine acode.of fun cx a w hr => ?_
  obtain ⟨I, β, h1, h2, h3, h4⟩ := hr
  have hv := h2 t
  rw [Env.find_get h] at hv
  simp only [Rep] at hv
  obtain ⟨vs, _, hv⟩ := hv
  exact (k (RepL.LB hv hi)).use cx a w ⟨I, β, h1, h2, h3, h4⟩
theorem A.bW {G : Gl} {T sz k : Nat} {fz : Bool} {xs : List (List AV)} {d : Nat} (t : Nat) (ht : env.find t = some (.own d)) (h : σ.get d = some (.slice T sz xs k fz)) (k : LB xs → acode G c Q env σ) : acode G c Q env σ := by
  refine acode.of fun cx a w hr => ?_
  obtain ⟨I, β, h1, h2, h3, h4⟩ := hr
  have hv := h2 t
  rw [Env.find_get ht] at hv
  exact (k (own_LB h1 h hv)).use cx a w ⟨I, β, h1, h2, h3, h4⟩
theorem A.bP {G : Gl} {f : Bool} {cs : List AV} {xs : List (List AV)} (t i : Nat) (h : env.find t = some (.lptr cs)) (hi : cs[i]? = some (.lst f xs)) (k : LB xs → acode G c Q env σ) : acode G c Q env σ := by
  refine acode.of fun cx a w hr => ?_
  obtain ⟨I, β, h1, h2, h3, h4⟩ := hr
  have hv := h2 t
  rw [Env.find_get h] at hv
  simp only [Rep, RepC] at hv
  obtain ⟨b, o, _, hv⟩ := hv
  obtain ⟨u, hu⟩ := RepRow_mem hv (List.mem_of_getElem? hi)
  exact (k (fun n => RepC.LB n f xs u hu)).use cx a w ⟨I, β, h1, h2, h3, h4⟩
theorem A.bC {G : Gl} {T d : Nat} {f : Bool} {cs : List AV} {xs : List (List AV)} (t i : Nat) (ht : env.find t = some (.ptr d 0)) (h : σ.get d = some (.cells T cs)) (hi : cs[i]? = some (.lst f xs)) (k : LB xs → acode G c Q env σ) : acode G c Q env σ := by
  refine acode.of fun cx a w hr => ?_
  obtain ⟨I, β, h1, h2, h3, h4⟩ := hr
  have hv := h2 t
  rw [Env.find_get ht] at hv
  simp only [Rep] at hv
  obtain ⟨b, hb, _⟩ := hv
  obtain ⟨arr, _, _, hL, _⟩ := RelW.box h1 h hb
  exact (k (RepL.LB hL hi)).use cx a w ⟨I, β, h1, h2, h3, h4⟩
theorem A.bD {G : Gl} {T d d2 T2 sz k2 : Nat} {fz : Bool} {cs : List AV} {xs : List (List AV)} (t i : Nat) (ht : env.find t = some (.ptr d 0)) (h : σ.get d = some (.cells T cs)) (hi : cs[i]? = some (.own d2)) (hd : σ.get d2 = some (.slice T2 sz xs k2 fz)) (k : LB xs → acode G c Q env σ) : acode G c Q env σ := by
  refine acode.of fun cx a w hr => ?_
  obtain ⟨I, β, h1, h2, h3, h4⟩ := hr
  have hv := h2 t
  rw [Env.find_get ht] at hv
  simp only [Rep] at hv
  obtain ⟨b, hb, _⟩ := hv
  obtain ⟨arr, _, _, hL, _⟩ := RelW.box h1 h hb
  obtain ⟨v, _, hv2⟩ := RepL_get hL hi
  exact (k (own_LB h1 hd hv2)).use cx a w ⟨I, β, h1, h2, h3, h4⟩
theorem A.mid {G : Gl} (env2 : Env) (σ2 : Sto) (h : acode G y Q env2 σ2 → acode G (.seq x y) Q env σ) (k : acode G y Q env2 σ2) : acode G (.seq x y) Q env σ := h k
end code
theorem tf (b : Bool) : b = true ∨ b = false := by cases b <;> simp
theorem andT {p q : Bool} (h : p = true) : AV.bool q = .bool (p && q) := by rw [h]; rfl
theorem andF {p q : Bool} (h : p = false) : AV.bool false = .bool (p && q) := by rw [h]; rfl
theorem orT {p q : Bool} (h : p = true) : AV.bool true = .bool (p || q) := by rw [h]; rfl
theorem orF {p q : Bool} (h : p = false) : AV.bool q = .bool (p || q) := by rw [h]; rfl
theorem ifT {p x y : Bool} (h : p = true) : AV.bool x = .bool (bif p then x else y) := by rw [h]; rfl
theorem ifF {p x y : Bool} (h : p = false) : AV.bool y = .bool (bif p then x else y) := by rw [h]; rfl
theorem bE {p q : Bool} (h : p = q) : AV.bool p = .bool q := by rw [h]
section
variable {P : Program}
def hto {a b : AV} (e : a = b) : Hint P := .to .au a b e
def hx2 (h : Hint P) {a b : AV} (e : a = b) : Hint P := .to h a b e
def hix {sz : Nat} {xs : List (List AV)} {i : Int} {row : List AV} (pf : Ix sz xs i row) : Hint P := .ix sz xs i row pf
def hlo (d off : Nat) {sz : Nat} {xs : List (List AV)} {i : Int} {row : List AV} (pf : Ix sz xs i row) : Hint P := .lo d sz xs i off row pf
def hso (d : Nat) {sz : Nat} {xs : List (List AV)} {i : Int} {off : Nat} {ca : List AV} {zs : List (List AV)} (pf : St sz xs i off ca zs) {k : Nat} (hk : (k : Int) ≤ i) : Hint P := .so d sz xs i off ca zs pf k hk
def hro {f : FuncId} {σs : Sto} {avs : List AV} {r : AV} (pf : RO P f σs avs r) (hc : CallOk P f) : Hint P := .ro 0 f σs avs r pf hc
def hroR (raw : Nat) {f : FuncId} {σs : Sto} {avs : List AV} {r : AV} (pf : RO P f σs avs r) (hc : CallOk P f) : Hint P := .ro raw f σs avs r pf hc
def hrf {f : FuncId} {caps avs : List AV} {r : AV} (pf : RO P f [] (avs ++ caps) r) (hc : CallOk P f) : Hint P := .rf f caps avs r pf hc
def hle (ds : List Nat) {f : FuncId} {avs : List AV} {r : AV} (pf : RO P f [] avs r) (hc : CallOk P f) : Hint P := .le ds f avs r pf hc
def hlk {E : Nat} {k : IntKind} {ents : List (AV × AV)} {n : Int} {a : AV} {b : Bool} (pf : Lk P E k ents n a b) : Hint P := .lk E k ents n a b pf
def hmu {k : IntKind} {ents : List (AV × AV)} {n : Int} {v : AV} {ents' : List (AV × AV)} (pf : Mu k ents n v ents') : Hint P := .mu k ents n v ents' pf
def hlm {k : IntKind} {ents : List (AV × AV)} {n : Int} (pf : Lm k ents n) : Hint P := .lm k ents n pf
def hdc (news : List Nat) {f : FuncId} {σc : Sto} {avs : List AV} {r : AV} {σ2 : Sto} (pf : SCalls P f σc avs (fun a σ' => a = r ∧ σ' = σ2)) (hc : CallOk P f) : Hint P := .dc news f σc avs r σ2 pf hc
def hap (d2 : Nat) {sz bytes : Nat} {xs ys zs : List (List AV)} (pf : Ap sz bytes xs ys zs) : Hint P := .ap d2 sz bytes xs ys zs pf
def hsl {sz : Nat} {xs : List (List AV)} {a b : Int} {zs : List (List AV)} (pf : Sl sz xs a b zs) : Hint P := .sl sz xs a b zs pf
end
theorem ltT {α : Type} {l : List α} {j : Nat} {x : α} (h : l[j]? = some x) : decide ((j : Int) < (l.length : Int)) = true := by
  obtain ⟨h1, _⟩ := List.getElem?_eq_some_iff.1 h
  exact decide_eq_true (by omega)
theorem ltF {α : Type} {l : List α} {j : Nat} (h : l.length ≤ j) : decide ((j : Int) < (l.length : Int)) = false := decide_eq_false (by omega)
theorem leT {i h : Int} (hh : i < h + 1) : decide (i ≤ h) = true := decide_eq_true (by omega)
theorem geF {i h : Int} (hh : h ≤ i) : decide (i < h) = false := decide_eq_false (by omega)
theorem gtF {i h : Int} (hh : h + 1 ≤ i) : decide (i ≤ h) = false := decide_eq_false (by omega)
theorem slE2 {α : Type} (e : En α) {l m : List α} {a : Int} (h : sliO l a (l.length : Int) = some m) : Sl e.sz (ml e l) a ((ml e l).length : Int) (ml e m) := by rw [ml_length]; exact sl e h
def FldAll (P : Program) (T : Nat) : List (Nat × Nat) → Nat → Prop
  | [], _ => True
  | (off, _) :: r, n => FldS P T n off ∧ FldAll P T r (n + 1)
theorem FldAll.get {P : Program} {T : Nat} : ∀ {pl : List (Nat × Nat)} {n f off sz : Nat}, FldAll P T pl n → pl[f]? = some (off, sz) → FldS P T (n + f) off
  | [], _, _, _, _, _, h => by simp at h
  | (o, s) :: r, n, 0, off, sz, hh, h => by simp at h; obtain ⟨rfl, rfl⟩ := h; exact hh.1
  | (o, s) :: r, n, f + 1, off, sz, hh, h => by
    have := FldAll.get (f := f) (off := off) (sz := sz) hh.2 (by simpa using h)
    rwa [Nat.add_right_comm, Nat.add_assoc] at this
theorem kdStruct {P : Program} {T : Nat} {zs : List Value} {pl : List (Nat × Nat)} (h1 : StrS P T zs pl) (h2 : FldAll P T pl 0) : KdOk P T (.struct zs pl []) :=
  ⟨h1, fun f off sz h => by have := h2.get h; rwa [Nat.zero_add] at this, fun f off sz ag _ h => by simp at h⟩
theorem SC.sealT {P : Program} {f : FuncId} {σ0 σ2 σ3 : Sto} {args : List AV} {r r' : AV} (fz : List Nat) (h : SCalls P f σ0 args (fun a σ' => a = r ∧ σ' = σ2)) (hs : sealE σ3.ids (σ2.freeze fz) r = some r') (ha : (σ2.freeze fz).at σ3.ids = some σ3) :
    SCalls P f σ0 args (fun a σ' => a = r' ∧ σ' = σ3) := fun cx w I β vs h1 h2 => Calls.mono (h cx w I β vs h1 h2) fun _ _ ⟨v, he, r0, σ', I', β', ⟨q1, q2⟩, q3, q4⟩ => by
  subst q1 q2
  obtain ⟨I2, hle, hw⟩ := q4.freezeAll fz
  refine ⟨v, he, r', σ3, I2, β', ⟨rfl, rfl⟩, (sealE_ok hs).rep hw v (Rep_mono hle (HLe.refl β') _ _ q3), hw.sub fun d o hd => ?_⟩
  obtain ⟨p, p1, p2, p3⟩ := sto_mem σ3 d o hd
  rw [← p2, ← p3]; exact (Sto.at_sub ha).1.mem p p1
theorem SC.at {P : Program} {f : FuncId} {σ0 σ2 : Sto} {args : List AV} {r : AV} (l : List (Nat × Nat)) (h : SCalls P f σ0 args (fun a σ' => a = r ∧ σ' = σ2)) :
    SCalls P f (σ0.ren (swps l)) (renL (swps l) args) (fun a σ' => a = r.ren (swps l) ∧ σ' = σ2.ren (swps l)) :=
  (h.at l).mono fun a s hh => by
    obtain ⟨a0, s0, ⟨rfl, rfl⟩, h1, h2⟩ := hh
    exact ⟨h1, h2⟩

/-! ## ends -/
def resV (tb : Tb) (env : Env) (σ : Sto) : ResultVar → Option AV
  | .tmp t => env.find t
  | .cell a T => match env.find a with
    | some (.ptr d 0) => (match σ.get d with
      | some (.cells _ cs) => (match tb.get T with
        | some i => bif Nat.beq cs.length i.sz && (i.ag || Nat.blt 0 i.sz) then ldO i.ag i.sz cs else none
        | none => none)
      | _ => none)
    | _ => none
def resE (tb : Tb) (env : Env) (σ : Sto) : List ResultVar → Option AV
  | [] => some (.tup [])
  | [a] => resV tb env σ a
  | [a, b] => match resV tb env σ a with | none => none | some x => match resV tb env σ b with | none => none | some y => some (.tup [x, y])
  | [a, b, c] => match resV tb env σ a with | none => none | some x => match resV tb env σ b with | none => none | some y => match resV tb env σ c with | none => none | some z => some (.tup [x, y, z])
  | _ => none
theorem resV_ok {P : Program} {N : Nat} {ids : List Nat} {tb : Tb} (W : Wld P tb) {env : Env} {σ : Sto} {v : ResultVar} {a : AV} (h : resV tb env σ v = some a) : ResV ⟨P, N, ids⟩ env σ v a := by
  cases v with
  | tmp t => exact RV.tmp h
  | cell p T =>
    simp only [resV] at h
    split at h
    · rename_i d hp
      split at h
      · rename_i T' cs hd
        split at h
        · rename_i i hT
          generalize hb : (Nat.beq cs.length i.sz && _) = bb at h
          cases bb with
          | false => cases h
          | true =>
            simp only [cond_true] at h
            rw [Bool.and_eq_true] at hb
            exact RV.cell (TbAll.get W.tys hT).ty (Env.find_get hp) hd hb.1 hb.2 h
        · cases h
      · cases h
    · cases h
theorem resE_ok {P : Program} {N : Nat} {ids : List Nat} {tb : Tb} (W : Wld P tb) {env : Env} {σ : Sto} {l : List ResultVar} {a : AV} (h : resE tb env σ l = some a) : ResL ⟨P, N, ids⟩ env σ l a := by
  unfold resE at h
  split at h
  · cases h; exact .zero
  · exact .one (resV_ok W h)
  · split at h
    · cases h
    · rename_i x hx
      split at h
      · cases h
      · rename_i y hy; cases h; exact .two (resV_ok W hx) (resV_ok W hy)
  · split at h
    · cases h
    · rename_i x hx
      split at h
      · cases h
      · rename_i y hy
        split at h
        · cases h
        · rename_i z hz; cases h; exact .three (resV_ok W hx) (resV_ok W hy) (resV_ok W hz)
  · cases h
def finE (tb : Tb) (ids : List Nat) (ms : List Mv) (ds : List Nat) (l : List ResultVar) (env : Env) (σ : Sto) : Option (AV × Sto) := match mvsE ids ms env σ with
  | none => none
  | some (e, s) => match resE tb e s l with
    | none => none
    | some a => match sealE ds s a with
      | none => none
      | some b => match s.at ds with
        | none => none
        | some s2 => some (b, s2)
def lateP (G : Gl) (fn : Func) (Post : AV → Sto → Prop) : Exit → Env → Sto → Prop := fun e env σ => ∃ env2 σ2, Weak G env σ env2 σ2 ∧ retPost G fn Post e env2 σ2
theorem A.fin {P : Program} {N : Nat} {ids : List Nat} {tb : Tb} (W : Wld P tb) {fn : Func} {env : Env} {σ σ2 : Sto} {R : AV} {e : Exit} (ms : List Mv) (he : (match e with | .ret | .normal => true | _ => false) = true) (h : finE tb ids ms σ2.ids fn.results.toList env σ = some (R, σ2)) :
    lateP ⟨P, N, ids⟩ fn (fun a σ' => a = R ∧ σ' = σ2) e env σ := by
  simp only [finE] at h
  split at h
  · cases h
  · rename_i e1 s1 hm
    split at h
    · cases h
    · rename_i a ha
      split at h
      · cases h
      · rename_i b hb
        split at h
        · cases h
        · rename_i s2 hs
          cases h
          refine ⟨e1, s1, mvsE_ok hm, ?_⟩
          have key : ∃ fz x r σ', ResL ⟨P, N, ids⟩ e1 (s1.freeze fz) fn.results.toList x ∧ Seal (s1.freeze fz) x r ∧ (∀ p ∈ σ', (s1.freeze fz).get p.1 = some p.2) ∧ (r = R ∧ σ' = σ2) := by
            refine ⟨[], a, R, σ2, ?_, ?_, ?_, rfl, rfl⟩
            · rw [Sto.freeze_nil]; exact resE_ok W ha
            · rw [Sto.freeze_nil]; exact sealE_ok hb
            · rw [Sto.freeze_nil]; exact (Sto.at_sub hs).1.mem
          cases e <;> first | exact key | cases he
theorem enterA {P : Program} {f : FuncId} {fn : Func} {c : Code} {σ0 : Sto} {args : List AV} {Post : AV → Sto → Prop} (hf : P.funcs[f]? = some fn) (hb : fn.body = some c) (hN : Nat.ble args.length fn.ntmps = true)
    (h : acode ⟨P, fn.ntmps, σ0.ids⟩ c (lateP ⟨P, fn.ntmps, σ0.ids⟩ fn Post) (argsEnv 0 args) σ0) : SCalls P f σ0 args Post :=
  SCalls.enter hf hb (Nat.le_of_ble_eq_true hN) fun _ => A.late h
end Go.Proofs.Ytggbjbcgfelgiaa
