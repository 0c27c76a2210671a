/- Strings' bytes; maps from numbers. No condition. -/
import Derived.Test.YtggbjbcgfelgiaaA10
namespace Go.Proofs.Ytggbjbcgfelgiaa
set_option linter.all false
open Go

/-! ### maps from numbers -/
def getI {α : Type} (l : List (Int × α)) (n : Int) : Option α := (l.find? fun p => decide (p.1 = n)).map (·.2)
def setI {α : Type} : List (Int × α) → Int → α → List (Int × α)
  | [], n, v => [(n, v)]
  | p :: r, n, v => if p.1 = n then (n, v) :: r else p :: setI r n v
def encM {α : Type} (k : IntKind) (enc : α → AV) (l : List (Int × α)) : List (AV × AV) := l.map fun p => (.int k p.1, enc p.2)

theorem findNow_some {I : Imm} {α : Type} {k : IntKind} {enc : α → AV} (n : Int) : ∀ (l : List (Int × α)) (es : List MapEntry) (i : Nat) (a : α), EntL I (encM k enc l) es → getI l n = some a →
    ∃ j v, Instr.findNow (.int k) (.int k n) es i = some (some (i + j, v)) ∧ RepC I (enc a) v ∧ ∃ e, es[j]? = some e ∧ e.key = .int k n ∧
      ∀ (b : α) (u : Value) (kk : MapEntry → MapEntry), RepC I (enc b) u → (∀ e, (kk e).key = .int k n ∧ (kk e).val = u) → EntL I (encM k enc (setI l n b)) (es.modify j kk)
  | [], es, i, a, h, hg => by simp [getI] at hg
  | (m, b) :: r, es, i, a, h, hg => by
    simp only [encM, List.map_cons, EntL] at h
    obtain ⟨e, us, rfl, h1, h2, h3⟩ := h
    simp only [RepC] at h1
    by_cases hm : m = n
    · subst hm
      simp only [getI, List.find?, decide_true, Option.map_some, Option.some.injEq] at hg
      subst hg
      refine ⟨0, e.val, ?_, h2, e, rfl, h1, ?_⟩
      · simp [Instr.findNow, Instr.sameNow, h1]
      · intro c u kk hu hk
        simp only [setI, if_pos, encM, List.map_cons, EntL, List.modify_zero_cons]
        exact ⟨kk e, us, rfl, by simp only [RepC]; exact (hk e).1, by rw [(hk e).2]; exact hu, h3⟩
    · have hg' : getI r n = some a := by simpa [getI, List.find?, hm] using hg
      obtain ⟨j, v, q1, q2, e', q3, q4, q5⟩ := findNow_some n r us (i + 1) a h3 hg'
      refine ⟨j + 1, v, ?_, q2, e', by simpa using q3, q4, ?_⟩
      · simp only [Instr.findNow, Instr.sameNow, h1, if_pos]
        have : (n == m) = false := by simpa using fun e => hm e.symm
        rw [this]
        simp only
        rw [q1]
        simp [Nat.add_assoc, Nat.add_comm 1 j]
      · intro c u kk hu hk
        simp only [setI, if_neg hm, encM, List.map_cons, EntL, List.modify_succ_cons]
        exact ⟨e, _, rfl, by simp only [RepC]; exact h1, h2, q5 c u kk hu hk⟩
theorem findNow_none {I : Imm} {α : Type} {k : IntKind} {enc : α → AV} (n : Int) : ∀ (l : List (Int × α)) (es : List MapEntry) (i : Nat), EntL I (encM k enc l) es → getI l n = none →
    Instr.findNow (.int k) (.int k n) es i = some none ∧ ∀ (b : α) (e : MapEntry), RepC I (enc b) e.val → e.key = .int k n → EntL I (encM k enc (setI l n b)) (es ++ [e])
  | [], es, i, h, hg => by
    simp only [encM, List.map_nil, EntL] at h
    subst h
    refine ⟨rfl, fun b e hb hk => ?_⟩
    simp only [setI, encM, List.map_cons, List.map_nil, EntL, List.nil_append]
    exact ⟨e, [], rfl, by simp only [RepC]; exact hk, hb, rfl⟩
  | (m, c) :: r, es, i, h, hg => by
    simp only [encM, List.map_cons, EntL] at h
    obtain ⟨e, us, rfl, h1, h2, h3⟩ := h
    simp only [RepC] at h1
    have hm : m ≠ n := fun hm => by subst hm; simp [getI, List.find?] at hg
    have hg' : getI r n = none := by simpa [getI, List.find?, hm] using hg
    obtain ⟨q1, q2⟩ := findNow_none n r us (i + 1) h3 hg'
    refine ⟨?_, fun b e' hb hk => ?_⟩
    · simp only [Instr.findNow, Instr.sameNow, h1, if_pos]
      have : (n == m) = false := by simpa using fun e => hm e.symm
      rw [this]
      exact q1
    · simp only [setI, if_neg hm, encM, List.map_cons, EntL, List.cons_append]
      exact ⟨e, _, rfl, by simp only [RepC]; exact h1, h2, q2 b e' hb hk⟩
theorem EntL_length {I : Imm} : ∀ (l : List (AV × AV)) (es : List MapEntry), EntL I l es → es.length = l.length
  | [], es, h => by simp only [EntL] at h; subst h; rfl
  | (k, v) :: r, es, h => by
    simp only [EntL] at h
    obtain ⟨e, us, rfl, _, _, h3⟩ := h
    simp [EntL_length r us h3]

structure MapS (P : Program) (T K E : TypeId) (k : IntKind) : Prop where
  und : P.underlying T = some (.map K E)
  key : P.underlying K = some (.int k)

section
variable {G : Gl} {σ : Sto} {o : Oper} {ev : Operand → AV}
theorem Y.makeMap {T d : Nat} {K E : TypeId} (h : o.op = .makeMap T none) (hi : G.ids.contains d = false) : Yields G o ev ((d, .map K E []) :: σ) [d] [d] (.mapv d) := by
  intro σ' cx I β w ρ hR hw hm hop
  have hrun : (execOp ρ o).run G.P w = .ok (.value (.map (some w.heap.size))) (w.alloc (.map #[] 0)) := by
    simp [execOp, h, Instr.makeMap]
  rw [hrun]
  have hβ := hm d (by simp)
  refine ⟨I, updH β d (.map (some w.heap.size)), by simp only [Rep]; exact ⟨by rw [updH_same], rfl⟩, ?_, ImmLe.refl I, fun x hx => updH_ne β _ (fun e => hx (by simp [e]))⟩
  refine hw.real (by simpa using hi) hβ rfl fun ob hob => ?_
  rw [hR d (by simp), Sto.get_cons, if_pos rfl] at hob
  injection hob with hob
  subst hob
  simp only [ObjRep, updH_same]
  exact .inr ⟨w.heap.size, #[], 0, rfl, heap_alloc_new w _, rfl, fun o => hw.imm_none (Nat.le_refl _) o, .inl hw.size⟩
theorem map_handle {G : Gl} {cx : Cx} {I : Imm} {β : Nat → Value} {σ : Sto} {w : World} (hw : RelW G cx I β σ w) {d : Nat} {K E : TypeId} {ents : List (AV × AV)} (hd : σ.get d = some (.map K E ents)) {v : Value} (hv : Rep I β (.mapv d) v) :
    ∃ r es clock, v = .map (some r) ∧ β d = .map (some r) ∧ w.heap[r]? = some (.map es clock) ∧ EntL I ents es.toList ∧ (∀ o, I r o = none) ∧ Place cx r := by
  simp only [Rep] at hv
  obtain ⟨rfl, hv⟩ := hv
  have := hw.objs d _ hd
  simp only [ObjRep] at this
  rcases this with q | ⟨r, es, clock, q1, q2, q3, q4, q5⟩
  · rw [q] at hv; simp [isMp] at hv
  · exact ⟨r, es, clock, q1, q1, q2, q3, q4, q5⟩
theorem run_getObjM {P : Program} {w : World} {r : Nat} {es : Array MapEntry} {c : Nat} (h : w.heap[r]? = some (.map es c)) : (getObj r).run P w = .ok (.map es c) w := by simp [getObj, Sem.run, h]
theorem run_checkKeyI {P : Program} {K : TypeId} {k : IntKind} (hK : P.underlying K = some (.int k)) (e : Bool) (n : Int) (w : World) : (Instr.checkKey e 10000 K (.int k n)).run P w = .ok () w := by
  have e1 : ∀ w, (underlying K).run P w = .ok (.int k) w := fun w => by simp [underlying, program, Sem.run, hK]
  rw [Instr.checkKey]; simp [e1]
theorem Y.lookup {α : Type} {T K E d : Nat} {k : IntKind} {x y : Operand} {ok : Bool} {n : Int} (l : List (Int × α)) (enc : α → AV) (z : α) (h : o.op = .lookup T x y ok) (hx : ev x = .mapv d) (hy : ev y = .int k n) (hd : σ.get d = some (.map K E (encM k enc l)))
    (hT : MapS G.P T K E k) (hz : ∀ w, ∃ v, (zeroValue E).run G.P w = .ok v w ∧ ∀ I, RepC I (enc z) v) :
    Yields G o ev σ [] [d] (bif ok then .tup [enc ((getI l n).getD z), .bool (getI l n).isSome] else enc ((getI l n).getD z)) :=
  .pure fun σ' cx I β w ρ hR hw hop => by
    have h1 := hop x (by simp [h, Op.operands]); rw [hx] at h1
    have h2 := hop y (by simp [h, Op.operands]); rw [hy] at h2; have h2 := rep_int h2
    obtain ⟨r, es, clock, q0, q1, q2, q3, q4, q5⟩ := map_handle hw (by rw [hR d (by simp)]; exact hd) h1
    have e1 : ∀ w, (underlying T).run G.P w = .ok (.map K E) w := fun w => by simp [underlying, program, Sem.run, hT.und]
    have e2 : ∀ w, (underlying K).run G.P w = .ok (.int k) w := fun w => by simp [underlying, program, Sem.run, hT.key]
    have e3 := run_getObjM (P := G.P) q2
    have e4 := run_checkKeyI (P := G.P) hT.key (es.isEmpty) n w
    cases hg : getI l n with
    | none =>
      obtain ⟨p1, _⟩ := findNow_none n l es.toList 0 q3 hg
      obtain ⟨v, z1, z2⟩ := hz w
      have e5 : (Instr.findKey K (.int k n) es.toList).run G.P w = .ok none w := by simp [Instr.findKey, e2, p1]
      cases ok with
      | true =>
        refine ⟨.tuple #[v, .bool false], by simp [execOp, h, Instr.lookup, q0, h2, e1, e3, e4, e5, z1], ?_⟩
        simp only [cond_true, Rep, RepL]
        exact ⟨_, rfl, v, [.bool false], rfl, RepC.rep β _ _ (z2 I), .bool false, [], rfl, by simp [RepC], rfl⟩
      | false =>
        refine ⟨v, by simp [execOp, h, Instr.lookup, q0, h2, e1, e3, e4, e5, z1], ?_⟩
        simp only [cond_false]
        exact RepC.rep β _ _ (z2 I)
    | some a =>
      obtain ⟨j, v, p1, p2, _⟩ := findNow_some n l es.toList 0 a q3 hg
      have e5 : (Instr.findKey K (.int k n) es.toList).run G.P w = .ok (some (0 + j, v)) w := by simp [Instr.findKey, e2, p1]
      cases ok with
      | true =>
        refine ⟨.tuple #[v, .bool true], by simp [execOp, h, Instr.lookup, q0, h2, e1, e3, e4, e5], ?_⟩
        simp only [cond_true, Rep, RepL]
        exact ⟨_, rfl, v, [.bool true], rfl, RepC.rep β _ _ p2, .bool true, [], rfl, by simp [RepC], rfl⟩
      | false =>
        refine ⟨v, by simp [execOp, h, Instr.lookup, q0, h2, e1, e3, e4, e5], ?_⟩
        simp only [cond_false]
        exact RepC.rep β _ _ p2
theorem Y.lenM {α : Type} {T K E d : Nat} {k : IntKind} {x : Operand} {kk} (l : List (Int × α)) (enc : α → AV) (h : o.op = .call ⟨.builtin .len, #[x], kk⟩) (hk : kk = #[T]) (hx : ev x = .mapv d) (hd : σ.get d = some (.map K E (encM k enc l))) (hT : G.P.underlying T = some (.map K E)) :
    Yields G o ev σ [] [d] (.int .i64 (l.length : Int)) :=
  .pure fun σ' cx I β w ρ hR hw hop => by
    subst hk
    have h1 := hop x (by simp [h, Op.operands, Call.operands]); rw [hx] at h1
    obtain ⟨r, es, clock, q0, q1, q2, q3, q4, q5⟩ := map_handle hw (by rw [hR d (by simp)]; exact hd) h1
    have e1 : ∀ w, (underlying T).run G.P w = .ok (.map K E) w := fun w => by simp [underlying, program, Sem.run, hT]
    have e3 := run_getObjM (P := G.P) q2
    have hl := EntL_length _ _ q3
    simp only [Array.length_toList, encM, List.length_map] at hl
    exact ⟨.int .i64 l.length, by simp [execOp, h, resolve, invoke, builtin, Builtin.len_, q0, e1, e3, goInt, hl], by simp [Rep, RepC]⟩
theorem Kept.setObj (w : World) (r : Nat) (o : Obj) : Kept w { w with heap := w.heap.setIfInBounds r o } r :=
  ⟨fun k hk _ => by simp [Array.getElem?_setIfInBounds_ne (Ne.symm hk)], by simp, rfl, rfl, rfl⟩
theorem D.mapUpdate {α : Type} {T K E d : Nat} {k : IntKind} {x y z : Operand} {n : Int} (l : List (Int × α)) (enc : α → AV) (v : α) (h : o.op = .mapUpdate T x y z ∨ o.op = .insert T x y z) (hx : ev x = .mapv d) (hy : ev y = .int k n) (hz : ev z = enc v) (hc : (enc v).closed = true)
    (hd : σ.get d = some (.map K E (encM k enc l))) (hT : MapS G.P T K E k) :
    Does G o ev σ [d] [] (fun r σ' => r = .undef ∧ σ' = σ.set d (.map K E (encM k enc (setI l n v)))) := by
  intro cx I β w ρ hw hop
  have hops : x ∈ o.op.operands ∧ y ∈ o.op.operands ∧ z ∈ o.op.operands := by rcases h with h | h <;> simp [h, Op.operands]
  have h1 := hop x hops.1; rw [hx] at h1
  have h2 := hop y hops.2.1; rw [hy] at h2; have h2 := rep_int h2
  have h3 := hop z hops.2.2; rw [hz] at h3
  have h3 := Rep.closed _ _ hc h3
  obtain ⟨r, es, clock, q0, q1, q2, q3, q4, q5⟩ := map_handle hw hd h1
  have e1 : ∀ w, (underlying T).run G.P w = .ok (.map K E) w := fun w => by simp [underlying, program, Sem.run, hT.und]
  have e2 : ∀ w, (underlying K).run G.P w = .ok (.int k) w := fun w => by simp [underlying, program, Sem.run, hT.key]
  have e3 := run_getObjM (P := G.P) q2
  have e4 := run_checkKeyI (P := G.P) hT.key false n w
  have hset : ∀ ob : Obj, (setObj r ob).run G.P w = .ok () { w with heap := w.heap.setIfInBounds r ob } := fun ob => by
    have := lt_of_some q2
    simp [setObj, Sem.run, q2]
  have main : ∃ es' clock', (execOp ρ o).run G.P w = .ok .skip { w with heap := w.heap.setIfInBounds r (.map es' clock') } ∧ EntL I (encM k enc (setI l n v)) es'.toList := by
    cases hg : getI l n with
    | none =>
      obtain ⟨p1, p2⟩ := findNow_none n l es.toList 0 q3 hg
      have e5 : (Instr.findKey K (.int k n) es.toList).run G.P w = .ok none w := by simp [Instr.findKey, e2, p1]
      refine ⟨_, _, by rcases h with h | h <;> simp [execOp, h, Instr.mapUpdate, q0, h2, e1, e3, e4, e5, hset] <;> rfl, ?_⟩
      simpa using p2 v ⟨.int k n, ρ z, clock⟩ h3 rfl
    | some a =>
      obtain ⟨j, u, p1, p2, e', p3, p4, p5⟩ := findNow_some n l es.toList 0 a q3 hg
      have e5 : (Instr.findKey K (.int k n) es.toList).run G.P w = .ok (some (0 + j, u)) w := by simp [Instr.findKey, e2, p1]
      have e6 : es[j]? = some e' := by simpa using p3
      have e7 : (Instr.keyThatStays (.int k n) (.int k n)).run G.P w = .ok (.int k n) w := by simp [Instr.keyThatStays, Instr.sameBits]
      refine ⟨_, _, by rcases h with h | h <;> simp [execOp, h, Instr.mapUpdate, q0, h2, e1, e3, e4, e5, hset, e6, p4, e7] <;> rfl, ?_⟩
      simpa using p5 v (ρ z) (fun e => { e with key := .int k n, val := ρ z }) h3 (fun e => ⟨rfl, rfl⟩)
  obtain ⟨es', clock', hrun, hE⟩ := main
  rw [hrun]
  refine ⟨.undef, _, I, β, ⟨rfl, rfl⟩, by simp [Rep, RepC], ?_, ImmLe.refl I, fun _ _ => rfl, fun x hx => by rw [Sto.set_get, if_neg (by simpa using hx)]⟩
  have hbd : blk (β d) = some r := by rw [q1]; rfl
  refine hw.turn (d := d) (Kept.setObj w r _) q5 (fun x hx => by rw [Sto.set_get, if_neg hx]) (fun x hx hs e => hw.sep x d hs (by rw [hd]; rfl) hx r e hbd) (ImmLe.refl I) (fun _ _ _ => rfl)
    (fun o v hv => by rw [q4 o] at hv; cases hv) (fun _ _ => rfl) (.inr rfl) (HLe.refl β) (.inl hbd) fun ob hob => ?_
  rw [Sto.set_get, if_pos rfl, hd] at hob
  injection hob with hob
  subst hob
  simp only [ObjRep]
  exact .inr ⟨r, es', clock', q1, by have := lt_of_some q2; simp [Array.getElem?_setIfInBounds, this], hE, q4, q5⟩
/-! ### a byte of a string -/
theorem Y.indexS {T : TypeId} {x y : Operand} {k : IntKind} {n : Int} {s : ByteArray} {b : UInt8} (h : o.op = .index T x y) (hx : ev x = .str s) (hy : ev y = .int k n) (hT : G.P.underlying T = some .string) (hn : 0 ≤ n) (hb : s[n.toNat]? = some b) :
    Yields G o ev σ [] [] (.int .u8 (b.toNat : Int)) :=
  .pure fun σ' cx I β w ρ hR hw hop => by
    have h1 := hop x (by simp [h, Op.operands]); rw [hx] at h1; simp only [Rep, RepC] at h1
    have h2 := hop y (by simp [h, Op.operands]); rw [hy] at h2; have h2 := rep_int h2
    have e1 : ∀ w, (underlying T).run G.P w = .ok .string w := fun w => by simp [underlying, program, Sem.run, hT]
    exact ⟨.int .u8 b.toNat, by simp [execOp, h, Instr.index, h1, h2, asIntOf, e1, hn, hb], by simp [Rep, RepC]⟩
end
end Go.Proofs.Ytggbjbcgfelgiaa
