/- The rules for calls of functions, for stores and for appends. No condition. -/
import Derived.Test.YtggbjbcgfelgiaaA6
namespace Go.Proofs.Ytggbjbcgfelgiaa
set_option linter.all false
open Go

def Sto.minus (ids : List Nat) : Sto → Sto
  | [] => []
  | (d, o) :: r => bif ids.contains d then Sto.minus ids r else (d, o) :: Sto.minus ids r
theorem Sto.minus_get (ids : List Nat) : ∀ (σ : Sto) (d : Nat), (Sto.minus ids σ).get d = if d ∈ ids then none else σ.get d
  | [], d => by simp [Sto.minus, Sto.get]
  | (k, o) :: r, d => by
    simp only [Sto.minus]
    cases hk : ids.contains k with
    | true =>
      simp only [cond_true, Sto.minus_get ids r d, Sto.get_cons]
      split
      · rfl
      · rename_i hd
        rw [if_neg]
        intro e
        subst e
        simp at hk
        exact hd hk
    | false =>
      simp only [cond_false, Sto.get_cons, Sto.minus_get ids r d]
      split
      · rename_i e
        subst e
        rw [if_neg (by simpa using hk)]
      · rfl
theorem Sto.append_get : ∀ (a b : Sto) (d : Nat), Sto.get (a ++ b) d = match a.get d with | some o => some o | none => b.get d
  | [], b, d => by simp [Sto.get]
  | (k, o) :: r, b, d => by
    simp only [List.cons_append, Sto.get_cons]
    split
    · rfl
    · exact Sto.append_get r b d
theorem Sto.mem_ids {σ : Sto} {d : Nat} {o : AObj} (h : σ.get d = some o) : d ∈ σ.ids := by
  obtain ⟨p, h1, h2, _⟩ := sto_mem σ d o h
  exact List.mem_map.2 ⟨p, h1, h2⟩
theorem Sto.get_of_ids : ∀ {σ : Sto} {d : Nat}, d ∈ σ.ids → (σ.get d).isSome
  | [], d, h => by simp [Sto.ids] at h
  | (k, o) :: r, d, h => by
    rw [Sto.get_cons]
    split
    · rfl
    · rename_i hk
      simp only [Sto.ids, List.map_cons, List.mem_cons] at h
      rcases h with h | h
      · exact absurd h.symm hk
      · exact Sto.get_of_ids (σ := r) h

def blocksOf (β : Nat → Value) (σ : Sto) : List Nat := σ.filterMap fun p => blk (β p.1)
theorem blocksOf_mem {β : Nat → Value} {σ : Sto} {b : Nat} : b ∈ blocksOf β σ ↔ ∃ p ∈ σ, blk (β p.1) = some b := by simp [blocksOf, List.mem_filterMap]

section after
variable {G : Gl} {cx : Cx} {I : Imm} {β : Nat → Value} {σ : Sto} {w : World}

theorem RelW.placeOf (h : RelW G cx I β σ w) {x : Nat} {o : AObj} (hx : σ.get x = some o) {b : Nat} (hb : blk (β x) = some b) : Place cx b := by
  have ho := h.objs x o hx
  cases o with
  | cells T cs =>
    simp only [ObjRep] at ho
    rcases ho with q | ⟨b', arr, q1, q2, _, _, q5⟩
    · rw [q] at hb; simp [blk] at hb
    · rw [q1] at hb; simp [blk] at hb; subst hb; exact q5
  | slice T sz xs k fz =>
    simp only [ObjRep] at ho
    rcases ho with q | ⟨q, _⟩ | ⟨b', cap, arr, q1, _, _, _, _, _, _, _, _, _, q11⟩
    · rw [q] at hb; simp [blk] at hb
    · rw [q] at hb; simp [blk] at hb
    · rw [q1] at hb; simp [blk] at hb; subst hb; exact q11
  | map K E ents =>
    simp only [ObjRep] at ho
    rcases ho with q | ⟨r, es, clock, q1, _, _, _, q5⟩
    · rw [q] at hb; simp [blk] at hb
    · rw [q1] at hb; simp [blk] at hb; subst hb; exact q5

/-- the context of a call out of this state -/
def callCx (I : Imm) (β : Nat → Value) (σc : Sto) (w : World) : Cx := { B := w.heap.size, w0 := w, I0 := I, bl := blocksOf β σc, β0 := β }

theorem ObjRep.place {cx cx' : Cx} {I : Imm} {β : Nat → Value} {w : World} {d : Nat} {o : AObj} (hp : ∀ b, blk (β d) = some b → Place cx b → Place cx' b) (h : ObjRep cx I β w d o) : ObjRep cx' I β w d o := by
  cases o with
  | cells T cs =>
    simp only [ObjRep] at h ⊢
    rcases h with q | ⟨b', arr, q1, q2, q3, q4, q5⟩
    · exact .inl q
    · exact .inr ⟨b', arr, q1, q2, q3, q4, hp b' (by rw [q1]; rfl) q5⟩
  | slice T sz xs k fz =>
    simp only [ObjRep] at h ⊢
    rcases h with q | q | ⟨b', cap, arr, q1, q2, q3, q4, q5, q6, q7, q8, q9, q10, q11⟩
    · exact .inl q
    · exact .inr (.inl q)
    · exact .inr (.inr ⟨b', cap, arr, q1, q2, q3, q4, q5, q6, q7, q8, q9, q10, hp b' (by rw [q1]; rfl) q11⟩)
  | map K E ents =>
    simp only [ObjRep] at h ⊢
    rcases h with q | ⟨r, es, clock, q1, q2, q3, q4, q5⟩
    · exact .inl q
    · exact .inr ⟨r, es, clock, q1, q2, q3, q4, hp r (by rw [q1]; rfl) q5⟩

theorem RelW.into (h : RelW G cx I β σ w) {P : Program} {σc : Sto} (hs : ∀ p ∈ σc, σ.get p.1 = some p.2) : RelW ⟨P, 0, σc.ids⟩ (callCx I β σc w) I β σc w := by
  have hsub : ∀ d o, σc.get d = some o → σ.get d = some o := fun d o hd => by
    obtain ⟨p, p1, p2, p3⟩ := sto_mem σc d o hd
    rw [← p2, ← p3]; exact hs p p1
  have h1 := h.sub hsub
  exact { good := h1.good, imono := ImmLe.refl I, iext := fun _ _ _ _ => rfl, frame := fun _ _ _ => rfl, size := Nat.le_refl _, tape := rfl, os := rfl, output := rfl,
          objs := fun d o hd => (h1.objs d o hd).place fun b hb _ => .inr (by
            obtain ⟨p, p1, p2, _⟩ := sto_mem σc d o hd
            exact blocksOf_mem.2 ⟨p, p1, by rw [p2]; exact hb⟩),
          sep := h1.sep, keep := fun _ _ => rfl }

theorem RelW.after (h : RelW G cx I β σ w) {P : Program} {σc : Sto} (hs : ∀ p ∈ σc, σ.get p.1 = some p.2) {I' : Imm} {β' : Nat → Value} {σ2 : Sto} {w' : World}
    (h' : RelW ⟨P, 0, σc.ids⟩ (callCx I β σc w) I' β' σ2 w') (news : List Nat) (hn : ∀ d ∈ news, d ∉ G.ids ∧ σ.get d = none) (hcl : (σ.minus σc.ids).clean news.contains = true)
    (hok : σ2.clean (fun d => !(σc.ids ++ news).contains d) = true) :
    RelW G cx I' (fun d => if d ∈ news then β' d else β d) (σ2 ++ σ.minus σc.ids) w' ∧ ImmLe I I' ∧ (∀ (r : AV) v, r.refs (fun d => !(σc.ids ++ news).contains d) = false → Rep I' β' r v → Rep I' (fun d => if d ∈ news then β' d else β d) r v) := by
  have hsub : ∀ d o, σc.get d = some o → σ.get d = some o := fun d o hd => by
    obtain ⟨p, p1, p2, p3⟩ := sto_mem σc d o hd
    rw [← p2, ← p3]; exact hs p p1
  have hle : ImmLe I I' := h'.imono
  -- handles
  have hm : ∀ d, (fun d => !(σc.ids ++ news).contains d) d = false → (fun d => if d ∈ news then β' d else β d) d = β' d := fun d hd => by
    have hd : d ∈ σc.ids ∨ d ∈ news := by
      have : (σc.ids ++ news).contains d = true := by rw [← Bool.not_eq_false']; exact hd
      exact List.mem_append.1 (List.contains_iff_mem.1 this)
    show (if d ∈ news then β' d else β d) = β' d
    split
    · rfl
    · rename_i hn
      rcases hd with hd | hd
      · exact (h'.keep d hd).symm
      · exact absurd hd hn
  have hblk : ∀ b, b ∈ blocksOf β σc → Place cx b := fun b hb => by
    obtain ⟨p, p1, p2⟩ := blocksOf_mem.1 hb
    exact h.placeOf (hs p p1) p2
  have hpl : ∀ b, Place (callCx I β σc w) b → Place cx b := fun b hb => by
    rcases hb with hb | hb
    · exact .inl (Nat.le_trans h.size hb)
    · exact hblk b hb
  have hnot : ∀ b, b < cx.B → b ∉ cx.bl → b < (callCx I β σc w).B ∧ b ∉ (callCx I β σc w).bl := fun b h1 h2 =>
    ⟨Nat.lt_of_lt_of_le h1 h.size, fun hb => by
      rcases hblk b hb with q | q
      · omega
      · exact h2 q⟩
  -- the objects that stay behind
  have rest : ∀ x o, (σ.minus σc.ids).get x = some o → x ∉ σc.ids ∧ σ.get x = some o := fun x o hx => by
    rw [Sto.minus_get] at hx
    split at hx
    · cases hx
    · exact ⟨by assumption, hx⟩
  have restblk : ∀ x o, (σ.minus σc.ids).get x = some o → ∀ b, blk (β x) = some b → b < (callCx I β σc w).B ∧ b ∉ (callCx I β σc w).bl := fun x o hx b hb => by
    obtain ⟨h1, h2⟩ := rest x o hx
    refine ⟨h.obj_lt h2 hb, fun hbl => ?_⟩
    obtain ⟨p, p1, p2⟩ := blocksOf_mem.1 hbl
    have hpx : p.1 ≠ x := fun e => h1 (by rw [← e]; exact List.mem_map.2 ⟨p, p1, rfl⟩)
    exact h.sep p.1 x (by rw [hs p p1]; rfl) (by rw [h2]; rfl) hpx b p2 hb
  have restnew : ∀ x o, (σ.minus σc.ids).get x = some o → (if x ∈ news then β' x else β x) = β x := fun x o hx => by
    have : x ∉ news := fun hxn => by
      have := (hn x hxn).2
      rw [(rest x o hx).2] at this
      cases this
    rw [if_neg this]
  refine ⟨{ good := h'.good, imono := h.imono.trans hle, iext := fun b h1 h2 o => ?_, frame := fun b h1 h2 => ?_, size := Nat.le_trans h.size h'.size, tape := h'.tape.trans h.tape, os := h'.os.trans h.os, output := h'.output.trans h.output,
            objs := fun x o hx => ?_, sep := fun x y hx hy hne b => ?_, keep := fun x hx => ?_ }, hle, fun r v hr hv => Rep_beta hm r v hr hv⟩
  · obtain ⟨h3, h4⟩ := hnot b h1 h2
    exact (h'.iext b h3 h4 o).trans (h.iext b h1 h2 o)
  · obtain ⟨h3, h4⟩ := hnot b h1 h2
    exact (h'.frame b h3 h4).trans (h.frame b h1 h2)
  · rw [Sto.append_get] at hx
    cases h2 : σ2.get x with
    | some o' =>
      rw [h2] at hx
      cases hx
      obtain ⟨c1, c2⟩ := Sto.clean_get hok x o h2
      exact ((h'.objs x o h2).place (fun b _ => hpl b)).beta hm c1 c2
    | none =>
      rw [h2] at hx
      simp only at hx
      obtain ⟨r1, r2⟩ := rest x o hx
      obtain ⟨c1, c2⟩ := Sto.clean_get hcl x o hx
      have ho := h.objs x o r2
      have hb0 : ∀ d, news.contains d = false → (fun d => if d ∈ news then β' d else β d) d = β d := fun d hd => by
        have : d ∉ news := by simpa using hd
        show (if d ∈ news then β' d else β d) = β d
        rw [if_neg this]
      refine ObjRep.beta hb0 c1 c2 ?_
      -- its block is as it was
      have hob : ∀ b, blk (β x) = some b → w'.heap[b]? = w.heap[b]? ∧ ∀ o, I' b o = I b o := fun b hb => by
        obtain ⟨q1, q2⟩ := restblk x o hx b hb
        exact ⟨h'.frame b q1 q2, fun o => h'.iext b q1 q2 o⟩
      cases o with
      | cells T cs =>
        simp only [ObjRep] at ho ⊢
        rcases ho with q | ⟨b', arr, q1, q2, q3, q4, q5⟩
        · exact .inl q
        · obtain ⟨s1, s2⟩ := hob b' (by rw [q1]; rfl)
          exact .inr ⟨b', arr, q1, s1.trans q2, RepL_mono hle (HLe.refl β) _ _ q3, fun o => (s2 o).trans (q4 o), q5⟩
      | slice T sz xs k fz =>
        simp only [ObjRep] at ho ⊢
        rcases ho with q | q | ⟨b', cap, arr, q1, q2, q3, q4, q5, q6, q7, q8, q9, q10, q11⟩
        · exact .inl q
        · exact .inr (.inl q)
        · obtain ⟨s1, s2⟩ := hob b' (by rw [q1]; rfl)
          exact .inr (.inr ⟨b', cap, arr, q1, q2, q3, s1.trans q4, q5, RepCs_mono hle _ _ q6, q7, q8, fun hz o ho => (s2 o).trans (q9 hz o ho), fun o ho => (s2 o).trans (q10 o ho), q11⟩)
      | map K E ents =>
        simp only [ObjRep] at ho ⊢
        rcases ho with q | ⟨r, es, clock, q1, q2, q3, q4, q5⟩
        · exact .inl q
        · obtain ⟨s1, s2⟩ := hob r (by rw [q1]; rfl)
          have entm : ∀ (ents : List (AV × AV)) (es : List MapEntry), EntL I ents es → EntL I' ents es := by
            intro ents
            induction ents with
            | nil => exact fun _ h => h
            | cons x r ih =>
              intro es h
              obtain ⟨kk, vv⟩ := x
              simp only [EntL] at h ⊢
              obtain ⟨e', us, r1, r2, r3, r4⟩ := h
              exact ⟨e', us, r1, RepC_mono hle _ _ r2, RepC_mono hle _ _ r3, ih us r4⟩
          exact .inr ⟨r, es, clock, q1, s1.trans q2, entm _ _ q3, fun o => (s2 o).trans (q4 o), q5⟩
  · -- the blocks of two objects
    have at2 : ∀ x, (σ2.get x).isSome → (if x ∈ news then β' x else β x) = β' x := fun x hx => by
      obtain ⟨o, hx⟩ := Option.isSome_iff_exists.1 hx
      exact hm x (Sto.clean_get hok x o hx).1
    have side : ∀ x, (Sto.get (σ2 ++ σ.minus σc.ids) x).isSome → (σ2.get x).isSome ∨ ∃ o, (σ.minus σc.ids).get x = some o := fun x hx => by
      rw [Sto.append_get] at hx
      cases h2 : σ2.get x with
      | some o => exact .inl rfl
      | none => rw [h2] at hx; exact .inr (Option.isSome_iff_exists.1 hx)
    have mixed : ∀ x y, (σ2.get x).isSome → (∃ o, (σ.minus σc.ids).get y = some o) → blk (β' x) = some b → blk (β y) = some b → False := fun x y hx ⟨o, hy⟩ e1 e2 => by
      obtain ⟨ox, hx⟩ := Option.isSome_iff_exists.1 hx
      obtain ⟨q1, q2⟩ := restblk y o hy b e2
      rcases h'.placeOf hx e1 with q | q
      · exact absurd q (by omega)
      · exact q2 q
    show blk (if x ∈ news then β' x else β x) = some b → blk (if y ∈ news then β' y else β y) ≠ some b
    rcases side x hx with h1 | ⟨o1, h1⟩ <;> rcases side y hy with h2 | ⟨o2, h2⟩
    · rw [at2 x h1, at2 y h2]
      exact h'.sep x y h1 h2 hne b
    · rw [at2 x h1, restnew y o2 h2]
      exact fun e1 e2 => mixed x y h1 ⟨o2, h2⟩ e1 e2
    · rw [restnew x o1 h1, at2 y h2]
      exact fun e1 e2 => mixed y x h2 ⟨o1, h1⟩ e2 e1
    · rw [restnew x o1 h1, restnew y o2 h2]
      exact h.sep x y (by rw [(rest x o1 h1).2]; rfl) (by rw [(rest y o2 h2).2]; rfl) hne b
  · have : x ∉ news := fun hxn => (hn x hxn).1 hx
    simp only [this, if_false]
    exact h.keep x hx
end after

section ops
variable {G : Gl} {o : Oper} {ev : Operand → AV} {σ : Sto}

theorem RepL_map {I : Imm} {β : Nat → Value} (ev : Operand → AV) (ρ : Operand → Value) : ∀ (xs : List Operand), (∀ x ∈ xs, Rep I β (ev x) (ρ x)) → RepL I β (xs.map ev) (xs.map ρ)
  | [], _ => by simp [RepL]
  | x :: r, h => by
    simp only [List.map_cons, RepL]
    exact ⟨ρ x, r.map ρ, rfl, h x (by simp), RepL_map ev ρ r fun y hy => h y (by simp [hy])⟩

/-- the run of a call of a known function value -/
theorem run_call {P : Program} {o : Oper} {fo : Operand} {args : Array Operand} {k : Array TypeId} {ρ : Operand → Value} {f : FuncId} {vs : Array Value} {w : World} (h : o.op = .call ⟨.value fo, args, k⟩) (hf : ρ fo = .func (.func f) #[] vs)
    (hcall : ∀ (args : Array Value) (w : World), (callFunc f args).run P w = .ok (.enter f args) w) : (execOp ρ o).run P w = .ok (.enter f ((args.toList.map ρ ++ vs.toList).toArray)) w := by
  simp [execOp, h, resolve, hf, Deferred.ofValue, invoke, hcall]

theorem Y.call {fo : Operand} {args : Array Operand} {k : Array TypeId} {f : FuncId} {cap avs : List AV} {σs σc : Sto} {r : AV} (h : o.op = .call ⟨.value fo, args, k⟩) (hf : ev fo = .fn f cap)
    (hcall : ∀ (args : Array Value) (w : World), (callFunc f args).run G.P w = .ok (.enter f args) w) (hs : ∀ p ∈ σs, σ.get p.1 = some p.2) (ha : SealL σs (args.toList.map ev ++ cap) avs) (hc : ∀ p ∈ σc, σs.get p.1 = some p.2)
    (hro : RO G.P f σc avs r) (hr : r.closed = true) (hcc : σc.clean (fun d => !(σc.ids ++ []).contains d) = true) : Yields G o ev σ [] σs.ids r := by
  intro σ' cx I β w ρ hR hw _ hop
  have hf1 := hop fo (by simp [h, Op.operands, Call.operands])
  rw [hf] at hf1
  simp only [Rep] at hf1
  obtain ⟨vs, hf1, hcap⟩ := hf1
  rw [run_call h hf1 hcall]
  have hsub : ∀ d o, σs.get d = some o → σ'.get d = some o := fun d o hd => by
    obtain ⟨p, p1, p2, p3⟩ := sto_mem σs d o hd
    rw [hR d (by rw [← p2]; exact List.mem_map.2 ⟨p, p1, rfl⟩), ← p2, ← p3]; exact hs p p1
  have hws := hw.sub hsub
  have hargs := RepL_append _ _ _ _ (RepL_map ev ρ args.toList fun x hx => hop x (by simp only [h, Op.operands, Call.operands]; simp; right; simpa using hx)) hcap
  have hargs2 := ha.rep hws _ hargs
  have hsc : ∀ p ∈ σc, σ'.get p.1 = some p.2 := fun p hp => hsub _ _ (hc p hp)
  have hin := hw.into (P := G.P) hsc
  refine Calls.mono (hro _ w I β _ hin hargs2) ?_
  rintro e w' ⟨v, he, r', σ2, I', β', ⟨hr1, hr2⟩, hrep, hw'⟩
  subst hr1 hr2
  obtain ⟨h1, h2, h3⟩ := hw.after hsc hw' [] (by simp) (Sto.clean_none _) hcc
  refine ⟨v, he, I', β, ?_, ?_, h2, fun _ _ => rfl⟩
  · exact RepC.rep β _ _ (Rep.closed r' v hr hrep)
  · refine ({ h1 with } : RelW G cx I' β (σ2 ++ σ'.minus σ2.ids) w').sub fun d o hd => ?_
    rw [Sto.append_get, Sto.minus_get]
    cases h2 : σ2.get d with
    | some o' =>
      obtain ⟨p, p1, p2, p3⟩ := sto_mem σ2 d o' h2
      have := hsc p p1
      rw [p2, p3, hd] at this
      simpa using this.symm
    | none =>
      have : d ∉ σ2.ids := fun hm => by have := Sto.get_of_ids hm; rw [h2] at this; cases this
      simp [this, hd]

/-- a call that may turn the objects that it is given, and hands back new ones -/
theorem D.call {fo : Operand} {args : Array Operand} {k : Array TypeId} {f : FuncId} {cap avs : List AV} {σc : Sto} {Post : AV → Sto → Prop} (news : List Nat) (h : o.op = .call ⟨.value fo, args, k⟩) (hf : ev fo = .fn f cap)
    (hcall : ∀ (args : Array Value) (w : World), (callFunc f args).run G.P w = .ok (.enter f args) w) (hs : ∀ p ∈ σc, σ.get p.1 = some p.2) (ha : SealL σ (args.toList.map ev ++ cap) avs)
    (hro : SCalls G.P f σc avs Post) (hn : news.all (fun d => !G.ids.contains d && (σ.get d).isNone) = true) (hcl : (σ.minus σc.ids).clean news.contains = true)
    (hok : ∀ r σ2, Post r σ2 → r.refs (fun d => !(σc.ids ++ news).contains d) = false ∧ σ2.clean (fun d => !(σc.ids ++ news).contains d) = true) :
    Does G o ev σ (σc.ids ++ news) news (fun r σ' => ∃ σ2, Post r σ2 ∧ σ' = σ2 ++ σ.minus σc.ids) := by
  intro cx I β w ρ hw hop
  have hf1 := hop fo (by simp [h, Op.operands, Call.operands])
  rw [hf] at hf1
  simp only [Rep] at hf1
  obtain ⟨vs, hf1, hcap⟩ := hf1
  rw [run_call h hf1 hcall]
  have hargs := RepL_append _ _ _ _ (RepL_map ev ρ args.toList fun x hx => hop x (by simp only [h, Op.operands, Call.operands]; simp; right; simpa using hx)) hcap
  have hargs2 := ha.rep hw _ hargs
  have hin := hw.into (P := G.P) hs
  have hn' : ∀ d ∈ news, d ∉ G.ids ∧ σ.get d = none := fun d hd => by
    have := List.all_eq_true.1 hn d hd
    simpa using this
  refine Calls.mono (hro _ w I β _ hin hargs2) ?_
  rintro e w' ⟨v, he, r, σ2, I', β', hp, hrep, hw'⟩
  obtain ⟨k1, k2⟩ := hok r σ2 hp
  obtain ⟨h1, h2, h3⟩ := hw.after hs hw' news hn' hcl k2
  refine ⟨v, he, r, _, I', _, ⟨σ2, hp, rfl⟩, h3 r v k1 hrep, h1, h2, fun d hd => by simp [hd], fun d hd => ?_⟩
  have hd : d ∉ σc.ids ∧ d ∉ news := by simpa using hd
  rw [Sto.append_get, Sto.minus_get, if_neg hd.1]
  cases h2 : σ2.get d with
  | some o' =>
    have := (Sto.clean_get k2 d o' h2).1
    have : (σc.ids ++ news).contains d = true := by rw [← Bool.not_eq_false']; exact this
    exact absurd (List.mem_append.1 (List.contains_iff_mem.1 this)) (by simp [hd.1, hd.2])
  | none => rfl

/-! ### a store into a box -/
theorem run_storeCells_box {P : Program} {w : World} {b off : Nat} {T' : TypeId} {arr : Array Value} (hb : w.heap[b]? = some (.cells arr T' (0, 0))) (vs : List Value) (hl : off + vs.length ≤ arr.size) (h1 : ∀ v ∈ vs, v.oneCell' = true) :
    (storeCells ⟨b, off, none⟩ vs).run P w = .ok () (w.setRow b (spliceA arr.toList off vs).toArray) := by
  have := run_storeCells_at P b off T' vs 0 arr w hb (by simpa using hl) h1
  simpa [spliceA] using this

theorem RepL_splice {I : Imm} {β : Nat → Value} {cs ds : List AV} {vs us : List Value} (off : Nat) (h : RepL I β cs vs) (h' : RepL I β ds us) : RepL I β (spliceA cs off ds) (spliceA vs off us) := by
  unfold spliceA
  rw [RepL_length _ _ h']
  exact RepL_append _ _ _ _ (RepL_append _ _ _ _ (RepL_take _ _ _ h) h') (RepL_drop _ _ _ h)

def Sto.set (d : Nat) (o : AObj) : Sto → Sto
  | [] => []
  | (k, x) :: r => bif Nat.beq k d then (k, o) :: r else (k, x) :: Sto.set d o r
theorem Sto.set_get (d : Nat) (o : AObj) : ∀ (σ : Sto) (x : Nat), (Sto.set d o σ).get x = if x = d then (σ.get d).map fun _ => o else σ.get x
  | [], x => by simp [Sto.set, Sto.get]
  | (k, y) :: r, x => by
    simp only [Sto.set]
    by_cases hk : k = d
    · subst hk
      simp only [Nat.beq_refl, cond_true, Sto.get_cons]
      by_cases hx : k = x
      · subst hx; simp
      · simp [hx, Ne.symm hx]
    · have : Nat.beq k d = false := by rw [← Bool.not_eq_true, Nat.beq_eq]; exact hk
      simp only [this, cond_false, Sto.get_cons, Sto.set_get d o r x]
      by_cases hx : k = x
      · subst hx; simp [hk]
      · simp [hx, hk]

theorem D.storeP {T T' d p n : Nat} {x y : Operand} {a : AV} {cs : List AV} (h : o.op = .store T x y) (hx : ev x = .ptr d p) (hy : ev y = a) (hd : σ.get d = some (.cells T' cs)) (hT : ∀ w, (sizeOf T).run G.P w = .ok n w)
    (hf : a.flat = true) (hn : (cellsAV a).length = n) (hl : p + n ≤ cs.length) :
    Does G o ev σ [d] [] (fun r σ' => r = .undef ∧ σ' = σ.set d (.cells T' (spliceA cs p (cellsAV a)))) := by
  intro cx I β w ρ hw hop
  have h1 := hop x (by simp [h, Op.operands]); rw [hx] at h1
  have h2 := hop y (by simp [h, Op.operands]); rw [hy] at h2
  simp only [Rep] at h1
  obtain ⟨b, h1, h3⟩ := h1
  obtain ⟨arr, q1, q2, q3, q4, q5⟩ := hw.box hd h1
  obtain ⟨f1, f2⟩ := AV.flat_spec hf h2
  have l1 := RepL_length _ _ q3
  have l2 := RepL_length _ _ f1
  simp only [Array.length_toList] at l1 l2
  have hst := run_storeCells_box (P := G.P) q2 (ρ y).cells.toList (off := p) (by simp; omega) f2
  have hrun : (execOp ρ o).run G.P w = .ok .skip (w.setRow b (spliceA arr.toList p (ρ y).cells.toList).toArray) := by
    have e1 : ¬ ((ρ y).cells.size ≠ n) := by omega
    simp [execOp, h, h3, Instr.storeAt, Instr.sureAddr, storeVar, hT, e1, hst]
  rw [hrun]
  refine ⟨.undef, _, I, β, ⟨rfl, rfl⟩, by simp [Rep, RepC], ?_, ImmLe.refl I, fun _ _ => rfl, fun x hx => by rw [Sto.set_get, if_neg (by simpa using hx)]⟩
  have hbd : blk (β d) = some b := h1
  refine hw.turn (d := d) (Kept.setRow w b _) q5 (fun x hx => by rw [Sto.set_get, if_neg hx]) (fun x hx hs e => hw.sep x d hs (by rw [hd]; rfl) hx b e hbd) (ImmLe.refl I) (fun _ _ _ => rfl)
    (fun o v hv => by rw [q4 o] at hv; cases hv) (fun _ _ => rfl) (.inr rfl) (HLe.refl β) (.inl hbd) fun ob hob => ?_
  rw [Sto.set_get, if_pos rfl, hd] at hob
  injection hob with hob
  subst hob
  simp only [ObjRep]
  exact .inr ⟨b, _, q1, setRow_heap w b arr _ T' _ q2, by simpa using RepL_splice p q3 f1, q4, q5⟩
end ops
end Go.Proofs.Ytggbjbcgfelgiaa
