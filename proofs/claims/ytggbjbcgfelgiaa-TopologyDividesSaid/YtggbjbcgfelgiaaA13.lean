/- A nil slice in a variable is an owned one; contracts under other names of the objects. No condition. -/
import Derived.Test.YtggbjbcgfelgiaaA12
namespace Go.Proofs.Ytggbjbcgfelgiaa
set_option linter.all false
open Go

mutual
theorem AV.ren_ren {r s : Nat → Nat} (h : ∀ x, s (r x) = x) : ∀ a : AV, (a.ren r).ren s = a
  | .junk | .undef | .int _ _ | .bool _ | .str _ | .lst _ _ | .lptr _ | .nils | .nilp | .cfn _ _ | .sl0 => rfl
  | .agg cs => by simp only [AV.ren, renL_ren h cs]
  | .tup cs => by simp only [AV.ren, renL_ren h cs]
  | .fn _ cs => by simp only [AV.ren, renL_ren h cs]
  | .own d => by simp only [AV.ren, h d]
  | .ptr d _ => by simp only [AV.ren, h d]
  | .mapv d => by simp only [AV.ren, h d]
theorem renL_ren {r s : Nat → Nat} (h : ∀ x, s (r x) = x) : ∀ l : List AV, renL s (renL r l) = l
  | [] => rfl
  | x :: t => by simp only [renL, AV.ren_ren h x, renL_ren h t]
end
theorem Sto.ren_get_inj {r s : Nat → Nat} (h : ∀ x, s (r x) = x) : ∀ (σ : Sto) (d : Nat), (σ.ren r).get (r d) = (σ.get d).map (·.ren r)
  | [], d => rfl
  | (k, v) :: t, d => by
    have := Sto.ren_get_inj h t d
    simp only [Sto.ren] at this ⊢
    simp only [List.map_cons, Sto.get_cons]
    by_cases hk : k = d
    · subst hk; simp
    · have : r k ≠ r d := fun e => hk (by rw [← h k, ← h d, e])
      simp only [hk, this, if_false]; assumption
theorem Sto.ren_ids (r : Nat → Nat) (σ : Sto) : (σ.ren r).ids = σ.ids.map r := by simp [Sto.ids, Sto.ren]

theorem ObjRep.ren {cx : Cx} {I : Imm} {β β' : Nat → Value} {w : World} {r : Nat → Nat} (hb : ∀ d, β' (r d) = β d) {d : Nat} {o : AObj} {cx' : Cx} (hc : ∀ b, Place cx b → Place cx' b) (h : ObjRep cx I β w d o) : ObjRep cx' I β' w (r d) (o.ren r) := by
  cases o with
  | cells T cs =>
    simp only [ObjRep, AObj.ren, hb] at h ⊢
    rcases h with q | ⟨b, arr, e1, e2, e3, e4, e5⟩
    · exact .inl q
    · exact .inr ⟨b, arr, e1, e2, RepL_ren (p := fun _ => false) (fun d _ => hb d) cs _ (refsL_none (fun _ => rfl) cs) e3, e4, hc _ e5⟩
  | slice T sz xs k fz =>
    simp only [ObjRep, AObj.ren, hb] at h ⊢
    rcases h with q | q | ⟨b, cap, arr, q1, q2, q3, q4, q5, q6, q7, q8, q9, q10, q11⟩
    · exact .inl q
    · exact .inr (.inl q)
    · exact .inr (.inr ⟨b, cap, arr, q1, q2, q3, q4, q5, q6, q7, q8, q9, q10, hc _ q11⟩)
  | map K E ents =>
    simp only [ObjRep, AObj.ren, hb] at h ⊢
    rcases h with q | ⟨b, es, c, q1, q2, q3, q4, q5⟩
    · exact .inl q
    · exact .inr ⟨b, es, c, q1, q2, q3, q4, hc _ q5⟩
theorem AObj.ren_ren {r s : Nat → Nat} (h : ∀ x, s (r x) = x) : ∀ o : AObj, (o.ren r).ren s = o
  | .cells T cs => by simp only [AObj.ren, renL_ren h cs]
  | .slice .. => rfl
  | .map .. => rfl

theorem SCalls.ren {P : Program} {f : FuncId} {σ0 : Sto} {args : List AV} {Post : AV → Sto → Prop} (h : SCalls P f σ0 args Post) (r s : Nat → Nat) (hsr : ∀ x, s (r x) = x) (hrs : ∀ x, r (s x) = x) :
    SCalls P f (σ0.ren r) (renL r args) (fun a σ' => ∃ a0 σ1, Post a0 σ1 ∧ a = a0.ren r ∧ σ' = σ1.ren r) := by
  intro cx w I β vs hw hr
  have hin : ∀ x y, r x = r y → x = y := fun x y e => by rw [← hsr x, ← hsr y, e]
  have hw1 : RelW ⟨P, 0, σ0.ids⟩ { cx with β0 := fun x => cx.β0 (r x) } I (fun x => β (r x)) σ0 w :=
    { good := hw.good, imono := hw.imono, iext := hw.iext, frame := hw.frame, size := hw.size, tape := hw.tape, os := hw.os, output := hw.output
      objs := fun d o hd => by
        have h1 := hw.objs (r d) (o.ren r) (by rw [Sto.ren_get_inj hsr, hd]; rfl)
        have h2 := ObjRep.ren (r := s) (β' := fun x => β (r x)) (fun x => by show β (r (s x)) = β x; rw [hrs]) (cx' := { cx with β0 := fun x => cx.β0 (r x) }) (fun b hb => hb) h1
        rwa [hsr, AObj.ren_ren hsr] at h2
      sep := fun d d' hd hd' hne b hb => hw.sep (r d) (r d') (by rw [Sto.ren_get_inj hsr]; simpa using hd) (by rw [Sto.ren_get_inj hsr]; simpa using hd') (fun e => hne (hin _ _ e)) b hb
      keep := fun d hd => hw.keep (r d) (by show r d ∈ (σ0.ren r).ids; rw [Sto.ren_ids]; exact List.mem_map_of_mem hd) }
  have hr1 : RepL I (fun x => β (r x)) args vs := by
    have := RepL_ren (r := s) (β' := fun x => β (r x)) (p := fun _ => false) (fun x _ => by show β (r (s x)) = β x; rw [hrs]) (renL r args) vs (refsL_none (fun _ => rfl) _) hr
    rwa [renL_ren hsr] at this
  refine Calls.mono (h _ w I _ vs hw1 hr1) ?_
  rintro e w' ⟨v, rfl, a, σ', I', β', hp, hrep, hw'⟩
  refine ⟨v, rfl, a.ren r, σ'.ren r, I', fun x => β' (s x), ⟨a, σ', hp, rfl, rfl⟩, Rep_ren (r := r) (p := fun _ => false) (fun x _ => by show β' (s (r x)) = β' x; rw [hsr]) a v (refs_none (fun _ => rfl) a) hrep, ?_⟩
  have hget : ∀ d, (σ'.ren r).get d = (σ'.get (s d)).map (·.ren r) := fun d => by
    have := Sto.ren_get_inj hsr σ' (s d)
    rwa [hrs] at this
  exact { good := hw'.good, imono := hw'.imono, iext := hw'.iext, frame := hw'.frame, size := hw'.size, tape := hw'.tape, os := hw'.os, output := hw'.output
          objs := fun d o hd => by
            rw [hget] at hd
            obtain ⟨o0, h0, rfl⟩ := Option.map_eq_some_iff.1 hd
            have := ObjRep.ren (r := r) (β' := fun x => β' (s x)) (fun x => by show β' (s (r x)) = β' x; rw [hsr]) (cx' := cx) (fun b hb => hb) (hw'.objs (s d) o0 h0)
            rwa [hrs] at this
          sep := fun d d' hd hd' hne b hb => by
            rw [hget] at hd hd'
            exact hw'.sep (s d) (s d') (by simpa using hd) (by simpa using hd') (fun e => hne (by rw [← hrs d, ← hrs d', e])) b hb
          keep := fun d hd => by
            have : s d ∈ σ0.ids := by
              have hd : d ∈ (σ0.ren r).ids := hd
              rw [Sto.ren_ids] at hd
              obtain ⟨x, hx, rfl⟩ := List.mem_map.1 hd
              rw [hsr]; exact hx
            have := hw'.keep (s d) this
            show β' (s d) = _
            rw [this]
            show cx.β0 (r (s d)) = _
            rw [hrs] }

/-- names exchanged, two by two -/
def swp (a b x : Nat) : Nat := bif Nat.beq x a then b else bif Nat.beq x b then a else x
theorem swp_swp (a b x : Nat) : swp a b (swp a b x) = x := by
  have e : ∀ u v : Nat, Nat.beq u v = decide (u = v) := fun u v => by rw [Bool.eq_iff_iff]; simp
  simp only [swp, e]
  by_cases h1 : x = a
  · subst h1
    by_cases h2 : b = x
    · subst h2; simp
    · simp [h2]
  · by_cases h2 : x = b
    · subst h2; simp [h1]
    · simp [h1, h2]
def swps : List (Nat × Nat) → Nat → Nat
  | [], x => x
  | (a, b) :: r, x => swp a b (swps r x)
def swpsI : List (Nat × Nat) → Nat → Nat
  | [], x => x
  | (a, b) :: r, x => swpsI r (swp a b x)
theorem swps_inv : ∀ (l : List (Nat × Nat)) (x : Nat), swpsI l (swps l x) = x
  | [], x => rfl
  | (a, b) :: r, x => by simp only [swps, swpsI, swp_swp, swps_inv r]
theorem swps_inv' : ∀ (l : List (Nat × Nat)) (x : Nat), swps l (swpsI l x) = x
  | [], x => rfl
  | (a, b) :: r, x => by simp only [swps, swpsI, swps_inv' r, swp_swp]
theorem SCalls.at {P : Program} {f : FuncId} {σ0 : Sto} {args : List AV} {Post : AV → Sto → Prop} (h : SCalls P f σ0 args Post) (l : List (Nat × Nat)) :
    SCalls P f (σ0.ren (swps l)) (renL (swps l) args) (fun a σ' => ∃ a0 σ1, Post a0 σ1 ∧ a = a0.ren (swps l) ∧ σ' = σ1.ren (swps l)) :=
  h.ren (swps l) (swpsI l) (swps_inv l) (swps_inv' l)

theorem RepL_cell {I : Imm} {β β' : Nat → Value} {b : AV} {post : List AV} : ∀ (pre : List AV) (vs : List Value) {a : AV}, RepL I β (pre ++ a :: post) vs → (∀ x v, x ∈ pre ∨ x ∈ post → Rep I β x v → Rep I β' x v) → (∀ v, Rep I β a v → Rep I β' b v) → RepL I β' (pre ++ b :: post) vs
  | [], vs, a, h, h1, h2 => by
    simp only [List.nil_append, RepL] at h ⊢
    obtain ⟨u, us, rfl, q1, q2⟩ := h
    have key : ∀ (l : List AV) (vs : List Value), (∀ x ∈ l, x ∈ post) → RepL I β l vs → RepL I β' l vs := by
      intro l
      induction l with
      | nil => intro _ _ h; exact h
      | cons x r ih =>
        intro vs hm h
        simp only [RepL] at h ⊢
        obtain ⟨u, us, rfl, p1, p2⟩ := h
        exact ⟨u, us, rfl, h1 x u (.inr (hm x (by simp))) p1, ih us (fun y hy => hm y (by simp [hy])) p2⟩
    exact ⟨u, us, rfl, h2 u q1, key post us (fun x hx => hx) q2⟩
  | x :: r, vs, a, h, h1, h2 => by
    simp only [List.cons_append, RepL] at h ⊢
    obtain ⟨u, us, rfl, q1, q2⟩ := h
    exact ⟨u, us, rfl, h1 x u (.inl (by simp)) q1, RepL_cell r us q2 (fun y v hy => h1 y v (hy.imp (fun h => by simp [h]) id)) h2⟩
theorem refsL_mem {p : Nat → Bool} : ∀ {l : List AV}, refsL p l = false → ∀ x ∈ l, x.refs p = false
  | [], _, x, h => by simp at h
  | y :: r, h, x, hx => by
    simp only [refsL, Bool.or_eq_false_iff] at h
    rcases List.mem_cons.1 hx with rfl | hx
    · exact h.1
    · exact refsL_mem h.2 x hx
/-- a nil slice in a variable -/
theorem Weak.adoptC {G : Gl} {env : Env} {σ : Sto} (d0 d : Nat) (T : TypeId) (sz : Nat) (T0 : TypeId) (pre post : List AV) (h0 : σ.get d0 = some (.cells T0 (pre ++ .nils :: post))) (hne : Nat.beq d0 d = false) (hi : G.ids.contains d = false) (hc : env.clean (Nat.beq d) = true) (hs : σ.clean (Nat.beq d) = true) :
    Weak G env σ env ((d, .slice T sz [] 0 false) :: σ.set d0 (.cells T0 (pre ++ .own d :: post))) := fun cx I β a w h h' => by
  let β' : Nat → Value := fun x => if x = d then .slice none 0 0 else β x
  have hne : d0 ≠ d := fun e => by subst e; simp at hne
  have hb : ∀ x, Nat.beq d x = false → β' x = β x := fun x hx => by
    have : x ≠ d := fun e => by subst e; simp at hx
    show (if x = d then _ else β x) = _
    rw [if_neg this]
  have hbd : β' d = .slice none 0 0 := by show (if d = d then _ else _) = _; rw [if_pos rfl]
  have hset : ∀ x, x ≠ d → Sto.get ((d, .slice T sz [] 0 false) :: σ.set d0 (.cells T0 (pre ++ .own d :: post))) x = if x = d0 then some (.cells T0 (pre ++ .own d :: post)) else σ.get x := fun x hx => by
    rw [Sto.get_cons, if_neg (Ne.symm hx), Sto.set_get, h0]; rfl
  have hsome : ∀ x, x ≠ d → (Sto.get ((d, .slice T sz [] 0 false) :: σ.set d0 (.cells T0 (pre ++ .own d :: post))) x).isSome → (σ.get x).isSome := fun x hx hs => by
    rw [hset x hx] at hs
    split at hs
    · rename_i e; subst e; rw [h0]; rfl
    · exact hs
  refine ⟨I, β', { h with objs := fun x o e => ?_, sep := fun x y ex ey hxy b => ?_, keep := fun x hx => ?_ }, fun u => ?_⟩
  · by_cases hx : x = d
    · subst hx
      rw [Sto.get_cons, if_pos rfl] at e
      cases e
      simp only [ObjRep, hbd]
      exact .inr (.inl ⟨trivial, trivial, trivial⟩)
    · rw [hset x hx] at e
      split at e
      · rename_i e'; subst e'; cases e
        have ho := h.objs x _ h0
        obtain ⟨c1, c2⟩ := Sto.clean_get hs x _ h0
        simp only [entsRefs] at c2
        simp only [ObjRep, hb x c1] at ho ⊢
        rcases ho with q | ⟨b, arr, e1, e2, e3, e4⟩
        · exact .inl q
        · refine .inr ⟨b, arr, e1, e2, RepL_cell pre _ e3 (fun y v hy hr => Rep_beta hb y v ?_ hr) (fun v hv => ?_), e4⟩
          · exact refsL_mem c2 y (by rcases hy with hy | hy <;> simp [hy])
          · simp only [Rep, RepC] at hv
            simp only [Rep, hv, hbd, isSl, and_self]
      · obtain ⟨c1, c2⟩ := Sto.clean_get hs x o e
        exact (h.objs x o e).beta hb c1 c2
  · by_cases hx : x = d
    · subst hx; rw [hbd]; simp [blk]
    · by_cases hy : y = d
      · subst hy; rw [hbd]; simp [blk]
      · rw [hb x (by rw [← Bool.not_eq_true, Nat.beq_eq]; exact Ne.symm hx), hb y (by rw [← Bool.not_eq_true, Nat.beq_eq]; exact Ne.symm hy)]
        exact h.sep x y (hsome x hx ex) (hsome y hy ey) hxy b
  · have : d ≠ x := fun e => by subst e; simp at hi; exact hi hx
    rw [hb x (by rw [← Bool.not_eq_true, Nat.beq_eq]; exact this)]
    exact h.keep x hx
  · exact Rep_beta hb _ _ (Env.clean_get hc u) (h' u)
end Go.Proofs.Ytggbjbcgfelgiaa
