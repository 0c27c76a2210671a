/- The rules for operations that make or turn memory, and for calls. No condition. -/
import Derived.Test.YtggbjbcgfelgiaaA5
import Derived.Laws.OwnMore
namespace Go.Proofs.Ytggbjbcgfelgiaa
set_option linter.all false
open Go

/-! ### one block is made or turned, the rest stays -/
structure Kept (w w' : World) (b : Nat) : Prop where
  block : ∀ k, k ≠ b → k < w.heap.size → w'.heap[k]? = w.heap[k]?
  size : w.heap.size ≤ w'.heap.size
  tape : w'.tape = w.tape
  os : w'.os = w.os
  output : w'.output = w.output

theorem lt_of_some {w : World} {b : Nat} {x : Obj} (h : w.heap[b]? = some x) : b < w.heap.size := (Array.getElem?_eq_some_iff.1 h).1

theorem ObjRep.keep {cx : Cx} {I I' : Imm} {β β' : Nat → Value} {w w' : World} {x : Nat} {o : AObj} {b : Nat} (h : ObjRep cx I β w x o) (hk : Kept w w' b) (hx : β' x = β x) (hne : blk (β x) ≠ some b) (hle : ImmLe I I') (hI : ∀ b', b' ≠ b → ∀ o, I' b' o = I b' o) (hh : HLe β β') :
    ObjRep cx I' β' w' x o := by
  cases o with
  | cells T cs =>
    simp only [ObjRep, hx] at h ⊢
    rcases h with q | ⟨b', arr, q1, q2, q3, q4, q5⟩
    · exact .inl q
    · have hb : b' ≠ b := fun e => hne (by rw [q1, e]; rfl)
      exact .inr ⟨b', arr, q1, (hk.block b' hb (lt_of_some q2)).trans q2, RepL_mono hle hh _ _ q3, fun o => (hI b' hb o).trans (q4 o), q5⟩
  | slice T sz xs k fz =>
    simp only [ObjRep, hx] at h ⊢
    rcases h with q | q | ⟨b', cap, arr, q1, q2, q3, q4, q5, q6, q7, q8, q9, q10, q11⟩
    · exact .inl q
    · exact .inr (.inl q)
    · have hb : b' ≠ b := fun e => hne (by rw [q1, e]; rfl)
      exact .inr (.inr ⟨b', cap, arr, q1, q2, q3, (hk.block b' hb (lt_of_some q4)).trans q4, q5, RepCs_mono hle _ _ q6, q7, q8, fun hz o ho => (hI b' hb o).trans (q9 hz o ho), fun o ho => (hI b' hb o).trans (q10 o ho), q11⟩)
  | map K E ents =>
    simp only [ObjRep, hx] at h ⊢
    rcases h with q | ⟨r, es, clock, q1, q2, q3, q4, q5⟩
    · exact .inl q
    · have hb : r ≠ b := fun e => hne (by rw [q1, e]; rfl)
      have entm : ∀ (ents : List (AV × AV)) (es : List MapEntry), EntL I ents es → EntL I' ents es := by
        intro ents
        induction ents with
        | nil => exact fun _ h => h
        | cons x r ih =>
          intro es h
          obtain ⟨kk, vv⟩ := x
          simp only [EntL] at h ⊢
          obtain ⟨e', us, r1, r2, r3, r4⟩ := h
          exact ⟨e', us, r1, RepC_mono hle _ _ r2, RepC_mono hle _ _ r3, ih us r4⟩
      exact .inr ⟨r, es, clock, q1, (hk.block r hb (lt_of_some q2)).trans q2, entm _ _ q3, fun o => (hI r hb o).trans (q4 o), q5⟩

section turn
variable {G : Gl} {cx : Cx} {I : Imm} {β : Nat → Value} {σ : Sto} {w : World}

/-- block b is made or turned; 'd' is its object (if it has one) -/
theorem RelW.turn (h : RelW G cx I β σ w) {σ2 : Sto} {I' : Imm} {β' : Nat → Value} {w' : World} {b d : Nat} (hk : Kept w w' b) (hp : Place cx b) (hσ : ∀ x, x ≠ d → σ2.get x = σ.get x)
    (hfree : ∀ x, x ≠ d → (σ.get x).isSome → blk (β x) ≠ some b) (hle : ImmLe I I') (hI : ∀ b', b' ≠ b → ∀ o, I' b' o = I b' o) (hgood : ∀ o v, I' b o = some v → w'.cell? ⟨b, o, none⟩ = some v)
    (hβ : ∀ x, x ≠ d → β' x = β x) (hβd : d ∉ G.ids ∨ β' d = β d) (hh : HLe β β') (hbd : blk (β' d) = some b ∨ blk (β' d) = none) (ho : ∀ o, σ2.get d = some o → ObjRep cx I' β' w' d o) : RelW G cx I' β' σ2 w' where
  good := fun b' o v hv => by
    by_cases hb : b' = b
    · subst hb; exact hgood o v hv
    · rw [hI b' hb] at hv
      have h1 := h.good b' o v hv
      have hlt : b' < w.heap.size := by
        have := World.block_lt_of_cell? w _ h1
        exact this
      rw [World.cell?_of_block (w := w) (hk.block b' hb hlt)]
      exact h1
  imono := h.imono.trans hle
  iext := fun b' hb hn o => by
    have : b' ≠ b := fun e => by
      subst e
      rcases hp with q | q
      · omega
      · exact hn q
    rw [hI b' this]
    exact h.iext b' hb hn o
  frame := fun b' hb hn => by
    have : b' ≠ b := fun e => by
      subst e
      rcases hp with q | q
      · omega
      · exact hn q
    rw [hk.block b' this (by have := h.size; omega)]
    exact h.frame b' hb hn
  size := Nat.le_trans h.size hk.size
  tape := hk.tape.trans h.tape
  os := hk.os.trans h.os
  output := hk.output.trans h.output
  objs := fun x o hx => by
    by_cases hxd : x = d
    · subst hxd; exact ho o hx
    · rw [hσ x hxd] at hx
      exact (h.objs x o hx).keep hk (hβ x hxd) (hfree x hxd (by rw [hx]; rfl)) hle hI hh
  sep := fun x y hx hy hne b' => by
    by_cases hxd : x = d
    · subst hxd
      rw [hσ y (Ne.symm hne)] at hy
      rw [hβ y (Ne.symm hne)]
      intro e e'
      rcases hbd with q | q
      · rw [q] at e
        cases e
        exact hfree y (Ne.symm hne) hy e'
      · rw [q] at e; cases e
    · rw [hσ x hxd] at hx
      rw [hβ x hxd]
      by_cases hyd : y = d
      · subst hyd
        intro e e'
        rcases hbd with q | q
        · rw [q] at e'
          cases e'
          exact hfree x hxd hx e
        · rw [q] at e'; cases e'
      · rw [hσ y hyd] at hy
        rw [hβ y hyd]
        exact h.sep x y hx hy hne b'
  keep := fun x hx => by
    by_cases hxd : x = d
    · subst hxd
      rcases hβd with q | q
      · exact absurd hx q
      · rw [q]; exact h.keep x hx
    · rw [hβ x hxd]; exact h.keep x hx

/-- an object's block is not free -/
theorem RelW.obj_lt (h : RelW G cx I β σ w) {x : Nat} {o : AObj} (hx : σ.get x = some o) {b : Nat} (hb : blk (β x) = some b) : b < w.heap.size := by
  have ho := h.objs x o hx
  cases o with
  | cells T cs =>
    simp only [ObjRep] at ho
    rcases ho with q | ⟨b', arr, q1, q2, _⟩
    · rw [q] at hb; simp [blk] at hb
    · rw [q1] at hb; simp [blk] at hb; subst hb; exact lt_of_some q2
  | slice T sz xs k fz =>
    simp only [ObjRep] at ho
    rcases ho with q | ⟨q, _⟩ | ⟨b', cap, arr, q1, _, _, q4, _⟩
    · rw [q] at hb; simp [blk] at hb
    · rw [q] at hb; simp [blk] at hb
    · rw [q1] at hb; simp [blk] at hb; subst hb; exact lt_of_some q4
  | map K E ents =>
    simp only [ObjRep] at ho
    rcases ho with q | ⟨r, es, clock, q1, q2, _⟩
    · rw [q] at hb; simp [blk] at hb
    · rw [q1] at hb; simp [blk] at hb; subst hb; exact lt_of_some q2
theorem RelW.imm_none (h : RelW G cx I β σ w) {b : Nat} (hb : w.heap.size ≤ b) (o : Nat) : I b o = none := by
  cases hv : I b o with
  | none => rfl
  | some v =>
    have := World.block_lt_of_cell? w _ (h.good b o v hv)
    simp at this
    omega
theorem Kept.alloc (w : World) (o : Obj) : Kept w (w.alloc o) w.heap.size :=
  ⟨fun k _ hlt => heap_alloc_old w o k hlt, by simp, rfl, rfl, rfl⟩
theorem Kept.setRow (w : World) (g : Nat) (cs : Array Value) : Kept w (w.setRow g cs) g :=
  ⟨fun k hk _ => setRow_other w g k cs hk, by simp, rfl, rfl, rfl⟩
theorem Kept.drew {w w' : World} {b : Nat} (h : Kept w.drew w' b) : Kept w w' b := ⟨h.block, h.size, h.tape, h.os, h.output⟩

def updH (β : Nat → Value) (d : Nat) (v : Value) : Nat → Value := fun x => if x = d then v else β x
theorem updH_same (β : Nat → Value) (d : Nat) (v : Value) : updH β d v d = v := by simp [updH]
theorem updH_ne (β : Nat → Value) {d x : Nat} (v : Value) (h : x ≠ d) : updH β d v x = β x := by simp [updH, h]
theorem HLe.upd {β : Nat → Value} {d : Nat} {v : Value} (h : β d = .nilFunc) : HLe β (updH β d v) := fun x => by
  by_cases hx : x = d
  · subst hx; exact .inl h
  · exact .inr (updH_ne β v hx)

/-- a new block for a virtual object -/
theorem RelW.real (h : RelW G cx I β σ w) {d : Nat} (hd : d ∉ G.ids) (hn : β d = .nilFunc) {o : Obj} {v : Value} (hv : blk v = some w.heap.size) (ho : ∀ ob, σ.get d = some ob → ObjRep cx I (updH β d v) (w.alloc o) d ob) :
    RelW G cx I (updH β d v) σ (w.alloc o) :=
  h.turn (Kept.alloc w o) (.inl h.size) (fun _ _ => rfl) (fun x hx hs e => by
      obtain ⟨ob, hs⟩ := Option.isSome_iff_exists.1 hs
      exact absurd (h.obj_lt hs e) (by omega)) (ImmLe.refl I) (fun _ _ _ => rfl) (fun o' v' hv' => by rw [h.imm_none (Nat.le_refl _)] at hv'; cases hv')
    (fun x hx => updH_ne β v hx) (.inl hd) (HLe.upd hn) (.inl (by rw [updH_same]; exact hv)) ho

/-- a new block that is laid down for good -/
theorem RelW.lay (h : RelW G cx I β σ w) (vs : Array Value) (E : TypeId) : ∃ I', ImmLe I I' ∧ (∀ o v, vs[o]? = some v → I' w.heap.size o = some v) ∧ RelW G cx I' β σ (w.alloc (.cells vs E)) := by
  let I' : Imm := fun b o => if b = w.heap.size then vs[o]? else I b o
  have hle : ImmLe I I' := fun b o v hv => by
    show (if b = w.heap.size then vs[o]? else I b o) = some v
    split
    · rename_i e; subst e; rw [h.imm_none (Nat.le_refl _)] at hv; cases hv
    · exact hv
  refine ⟨I', hle, fun o v hv => by show (if _ then _ else _) = _; rw [if_pos rfl]; exact hv, ?_⟩
  have hfr : ∃ d, σ.get d = none := by
    have : ∀ (l : Sto), ∃ n, ∀ m, n ≤ m → l.get m = none := by
      intro l
      induction l with
      | nil => exact ⟨0, fun _ _ => rfl⟩
      | cons x r ih =>
        obtain ⟨n, hn⟩ := ih
        obtain ⟨k, v⟩ := x
        exact ⟨max n (k + 1), fun m hm => by rw [Sto.get_cons, if_neg (by omega)]; exact hn m (by omega)⟩
    obtain ⟨n, hn⟩ := this σ
    exact ⟨n, hn n (Nat.le_refl n)⟩
  obtain ⟨d, hd⟩ := hfr
  refine { good := fun b' o v hv => ?_, imono := h.imono.trans hle, iext := fun b' hb hn o => ?_, frame := fun b' hb hn => ?_, size := Nat.le_trans h.size (by simp), tape := h.tape, os := h.os, output := h.output,
           objs := fun x o hx => ?_, sep := h.sep, keep := h.keep }
  · change (if b' = w.heap.size then vs[o]? else I b' o) = some v at hv
    split at hv
    · rename_i e; subst e
      rw [World.cell?_alloc_new]; exact hv
    · have h1 := h.good b' o v hv
      have hlt := World.block_lt_of_cell? w _ h1
      rw [World.cell?_alloc_lt w _ _ hlt]
      exact h1
  · have : b' ≠ w.heap.size := by have := h.size; omega
    show (if b' = w.heap.size then vs[o]? else I b' o) = _
    rw [if_neg this]; exact h.iext b' hb hn o
  · rw [heap_alloc_old w _ b' (by have := h.size; omega)]
    exact h.frame b' hb hn
  · refine (h.objs x o hx).keep (b := w.heap.size) (Kept.alloc w _) rfl (fun e => absurd (h.obj_lt hx e) (by omega)) hle (fun b' hb o => ?_) (HLe.refl β)
    show (if b' = w.heap.size then vs[o]? else I b' o) = _
    rw [if_neg hb]
end turn

/-! ### closed values -/
/-- the cells of a value -/
def cellsAV : AV → List AV
  | .agg cs => cs
  | a => [a]
/-- one cell, known -/
def AV.one : AV → Bool
  | .int _ _ => true | .bool _ => true | .str _ => true | .lst _ _ => true | .lptr _ => true | .fn _ _ => true | .nils => true | .nilp => true | .own _ => true | .ptr _ _ => true | .mapv _ => true | .cfn _ _ => true | .sl0 => true
  | _ => false
theorem AV.one_spec {I : Imm} {β : Nat → Value} {a : AV} {v : Value} (h : a.one = true) (hr : Rep I β a v) : v.oneCell' = true ∧ v.cells = #[v] := by
  cases a <;> simp only [AV.one] at h <;> first | cases h | skip
  all_goals simp only [Rep, RepC] at hr
  all_goals first
    | (subst hr; exact ⟨rfl, rfl⟩)
    | (obtain ⟨_, _, rfl, _⟩ := hr; exact ⟨rfl, rfl⟩)
    | (obtain ⟨_, rfl, _⟩ := hr; exact ⟨rfl, rfl⟩)
    | (obtain ⟨_, _, rfl⟩ := hr; exact ⟨rfl, rfl⟩)
    | (obtain ⟨rfl, h2⟩ := hr
       rename_i d
       cases hb : β d <;> rw [hb] at h2 <;> first | (simp [isSl] at h2; done) | (simp [isMp] at h2; done) | exact ⟨rfl, rfl⟩)
/-- a value whose cells are known one by one -/
def AV.flat : AV → Bool
  | .agg cs => cs.all AV.one
  | a => a.one
theorem RepL_one {I : Imm} {β : Nat → Value} : ∀ (cs : List AV) (vs : List Value), cs.all AV.one = true → RepL I β cs vs → ∀ v ∈ vs, v.oneCell' = true
  | [], vs, _, h => by simp only [RepL] at h; subst h; simp
  | x :: r, vs, hc, h => by
    simp only [RepL] at h
    simp only [List.all_cons, Bool.and_eq_true] at hc
    obtain ⟨u, us, rfl, h1, h2⟩ := h
    intro v hv
    rcases List.mem_cons.1 hv with rfl | hv
    · exact (AV.one_spec hc.1 h1).1
    · exact RepL_one r us hc.2 h2 v hv
theorem AV.flat_spec {I : Imm} {β : Nat → Value} {a : AV} {v : Value} (h : a.flat = true) (hr : Rep I β a v) : RepL I β (cellsAV a) v.cells.toList ∧ ∀ u ∈ v.cells.toList, u.oneCell' = true := by
  by_cases ha : ∃ cs, a = .agg cs
  · obtain ⟨cs, rfl⟩ := ha
    simp only [Rep] at hr
    obtain ⟨vs, rfl, hr⟩ := hr
    simp only [AV.flat] at h
    exact ⟨hr, RepL_one cs _ h hr⟩
  · have h1 : a.one = true := by cases a <;> first | exact h | exact absurd ⟨_, rfl⟩ ha
    have h2 : cellsAV a = [a] := by cases a <;> first | rfl | exact absurd ⟨_, rfl⟩ ha
    obtain ⟨h3, h4⟩ := AV.one_spec h1 hr
    rw [h2, h4]
    exact ⟨⟨v, [], rfl, hr, rfl⟩, by simpa using h3⟩

section ops
variable {G : Gl} {o : Oper} {ev : Operand → AV} {σ : Sto}

/-! ### alloc, box -/
theorem Y.alloc {T d : Nat} {zs : List Value} (h : o.op = .alloc T) (hz : ∀ w, ∃ z, (zeroValue T).run G.P w = .ok z w ∧ z.cells = zs.toArray) (hi : G.ids.contains d = false) :
    Yields G o ev ((d, .cells T (avOfL zs)) :: σ) [d] [d] (.ptr d 0) := by
  intro σ' cx I β w ρ hR hw hm hop
  obtain ⟨z, hz1, hz2⟩ := hz w
  have hrun : (execOp ρ o).run G.P w = .ok (.value (.pointer (some ⟨w.heap.size, 0, none⟩))) (w.alloc (.cells zs.toArray T)) := by
    simp [execOp, h, Instr.alloc, hz1, newVar, newRow, hz2]
  rw [hrun]
  have hβ := hm d (by simp)
  refine ⟨I, updH β d (.pointer (some ⟨w.heap.size, 0, none⟩)), by simp only [Rep]; exact ⟨w.heap.size, by rw [updH_same]; rfl, rfl⟩, ?_, ImmLe.refl I, fun x hx => updH_ne β _ (fun e => hx (by simp [e]))⟩
  refine hw.real (by simpa using hi) hβ rfl fun ob hob => ?_
  rw [hR d (by simp), Sto.get_cons, if_pos rfl] at hob
  injection hob with hob
  subst hob
  simp only [ObjRep, updH_same]
  exact .inr ⟨w.heap.size, zs.toArray, rfl, heap_alloc_new w _, by simpa using avOfL_rep I _ zs, fun o => hw.imm_none (Nat.le_refl _) o, .inl hw.size⟩
theorem Y.box {T d : Nat} {x : Operand} {a : AV} {cs : List AV} (h : o.op = .box T x) (hx : ev x = a) (hf : a.flat = true) (hc : cellsAV a = cs) (hr : a.refs (Nat.beq d) = false) (hi : G.ids.contains d = false) :
    Yields G o ev ((d, .cells T cs) :: σ) [d] [d] (.ptr d 0) := by
  intro σ' cx I β w ρ hR hw hm hop
  have hx1 := hop x (by simp [h, Op.operands])
  rw [hx] at hx1
  have hrun : (execOp ρ o).run G.P w = .ok (.value (.pointer (some ⟨w.heap.size, 0, none⟩))) (w.alloc (.cells (ρ x).cells T)) := by
    simp [execOp, h, Instr.box, newVar, newRow]
  rw [hrun]
  have hβ := hm d (by simp)
  refine ⟨I, updH β d (.pointer (some ⟨w.heap.size, 0, none⟩)), by simp only [Rep]; exact ⟨w.heap.size, by rw [updH_same]; rfl, rfl⟩, ?_, ImmLe.refl I, fun x hx => updH_ne β _ (fun e => hx (by simp [e]))⟩
  refine hw.real (by simpa using hi) hβ rfl fun ob hob => ?_
  rw [hR d (by simp), Sto.get_cons, if_pos rfl] at hob
  injection hob with hob
  subst hob
  simp only [ObjRep, updH_same]
  refine .inr ⟨w.heap.size, (ρ x).cells, rfl, heap_alloc_new w _, ?_, fun o => hw.imm_none (Nat.le_refl _) o, .inl hw.size⟩
  have := (AV.flat_spec hf hx1).1
  rw [hc] at this
  exact RepL_mono (ImmLe.refl I) (HLe.upd hβ) _ _ this

/-! ### struct literals -/
structure StrS (P : Program) (T : TypeId) (zs : List Value) (pl : List (Nat × Nat)) : Prop where
  run : ∀ (parts : Array (Nat × Value)) (cells : Array Value) w, Instr.fill (fun i => pl[i]?) zs.toArray parts.toList = some cells → (Instr.build T parts).run P w = .ok (.agg cells) w

theorem strS {P : Program} {T : TypeId} {fs : Array Field} {zs : List Value} {pl : List (Nat × Nat)} (hz : ∀ w, (zeroValue T).run P w = .ok (.agg zs.toArray) w) (hu : P.underlying T = some (.struct fs))
    (hp : ∀ w, (fs.mapM fun f => do pure (f.offset, ← sizeOf f.type) : Sem (Array (Nat × Nat))).run P w = .ok pl.toArray w) : StrS P T zs pl where
  run := fun parts cells w h => by
    have h' : Instr.fill (pl.toArray[·]?) zs.toArray parts.toList = some cells := by
      rw [← h]; congr 1; funext i; simp
    unfold Instr.build
    simp only [Sem.run_bind, hz, Result.andThen_ok, run_underlying hu, hp, Value.cells]
    simp only [h']
    rfl

def spliceA {α : Type} (L : List α) (off : Nat) (cs : List α) : List α := L.take off ++ cs ++ L.drop (off + cs.length)
def fillA (pl : List (Nat × Nat)) (cells : List AV) : List (Nat × AV) → Option (List AV)
  | [] => some cells
  | (i, a) :: rest => match pl[i]? with
    | none => none
    | some (off, size) => bif Nat.beq (cellsAV a).length size && Nat.ble (off + (cellsAV a).length) cells.length && a.flat then fillA pl (spliceA cells off (cellsAV a)) rest else none

theorem foldl_set (cs : List Value) : ∀ (k off : Nat) (L : Array Value), off + k + cs.length ≤ L.size → ((cs.zipIdx k).foldl (fun (acc : Array Value) (x : Value × Nat) => acc.setIfInBounds (off + x.2) x.1) L).toList = L.toList.take (off + k) ++ cs ++ L.toList.drop (off + k + cs.length) := by
  induction cs with
  | nil => intro k off L h; simp
  | cons c r ih =>
    intro k off L h
    simp only [List.zipIdx_cons, List.foldl_cons]
    have := ih (k + 1) off (L.setIfInBounds (off + k) c) (by simp at h ⊢; omega)
    rw [this]
    have e := list_seg_step L.toList (off + k) c r (by simp at h ⊢; omega)
    simpa [Array.toList_setIfInBounds, Nat.add_assoc] using e

theorem RepL_append {I : Imm} {β : Nat → Value} : ∀ (xs ys : List AV) (us vs : List Value), RepL I β xs us → RepL I β ys vs → RepL I β (xs ++ ys) (us ++ vs)
  | [], ys, us, vs, h, h' => by simp only [RepL] at h; subst h; simpa using h'
  | x :: r, ys, us, vs, h, h' => by
    simp only [RepL] at h
    obtain ⟨u, us', rfl, h1, h2⟩ := h
    simp only [List.cons_append, RepL]
    exact ⟨u, us' ++ vs, rfl, h1, RepL_append r ys us' vs h2 h'⟩

theorem fill_rep {I : Imm} {β : Nat → Value} (pl : List (Nat × Nat)) : ∀ (parts : List (Nat × AV)) (vals : List (Nat × Value)) (cells : List AV) (L : Array Value) (out : List AV), RepL I β cells L.toList →
    (parts.length = vals.length ∧ ∀ (j : Nat) (p : Nat × AV) (q : Nat × Value), parts[j]? = some p → vals[j]? = some q → p.1 = q.1 ∧ Rep I β p.2 q.2) → fillA pl cells parts = some out → ∃ r, Instr.fill (fun i => pl[i]?) L vals = some r ∧ RepL I β out r.toList
  | [], vals, cells, L, out, h, hv, hf => by
    have : vals = [] := List.eq_nil_of_length_eq_zero hv.1.symm
    subst this
    simp only [fillA, Option.some.injEq] at hf
    subst hf
    exact ⟨L, rfl, h⟩
  | (i, a) :: rest, vals, cells, L, out, h, hv, hf => by
    cases vals with
    | nil => simp at hv
    | cons q vs =>
      obtain ⟨i', v⟩ := q
      have h0 := hv.2 0 _ _ rfl rfl
      simp only at h0
      obtain ⟨rfl, hrep⟩ := h0
      simp only [fillA] at hf
      cases hp : pl[i]? with
      | none => rw [hp] at hf; cases hf
      | some os =>
        obtain ⟨off, size⟩ := os
        rw [hp] at hf
        simp only at hf
        cases hc : (Nat.beq (cellsAV a).length size && Nat.ble (off + (cellsAV a).length) cells.length && a.flat) with
        | false => rw [hc] at hf; simp at hf
        | true =>
          rw [hc] at hf
          simp only [cond_true] at hf
          simp only [Bool.and_eq_true, Nat.beq_eq, Nat.ble_eq] at hc
          obtain ⟨⟨c1, c2⟩, c3⟩ := hc
          obtain ⟨d1, d2⟩ := AV.flat_spec c3 hrep
          have dl := RepL_length _ _ d1
          have ll := RepL_length _ _ h
          simp only [Array.length_toList] at dl ll
          simp only [Instr.fill, hp]
          rw [if_neg (show ¬ ((decide (v.cells.size ≠ size) || decide (off + v.cells.size > L.size)) = true) from by simp; omega)]
          refine fill_rep pl rest vs _ _ out ?_ ⟨by simpa using hv.1, fun j p q hj hq => hv.2 (j + 1) p q (by simpa using hj) (by simpa using hq)⟩ hf
          have e := foldl_set v.cells.toList 0 off L (by simp; omega)
          have e2 : (v.cells.zipIdx.foldl (fun cs (x : Value × Nat) => cs.setIfInBounds (off + x.2) x.1) L) = ((v.cells.toList.zipIdx 0).foldl (fun (acc : Array Value) (x : Value × Nat) => acc.setIfInBounds (off + x.2) x.1) L) := by
            rw [← Array.foldl_toList, Array.toList_zipIdx]
          rw [e2, e]
          simp only [Nat.add_zero, spliceA]
          refine RepL_append _ _ _ _ (RepL_append _ _ _ _ (RepL_take _ _ _ h) d1) ?_
          have := RepL_drop (off + (cellsAV a).length) _ _ h
          have hl2 : v.cells.toList.length = (cellsAV a).length := by simpa using dl
          rw [hl2]
          exact this

theorem Y.build {T : TypeId} {parts : Array (Nat × Operand)} {zs : List Value} {pl : List (Nat × Nat)} {cs : List AV} (h : o.op = .build T parts) (hT : StrS G.P T zs pl)
    (hf : fillA pl (avOfL zs) (parts.toList.map fun p => (p.1, ev p.2)) = some cs) : Yields G o ev σ [] [] (.agg cs) :=
  .pure fun σ' cx I β w ρ hR hw hop => by
    have h1 : ∀ p ∈ parts.toList, Rep I β (ev p.2) (ρ p.2) := fun p hp => hop p.2 (by simp only [h, Op.operands]; simpa using ⟨p.1, by simpa using hp⟩)
    obtain ⟨r, h2, h3⟩ := fill_rep pl (parts.toList.map fun p => (p.1, ev p.2)) (parts.toList.map fun p => (p.1, ρ p.2)) (avOfL zs) zs.toArray cs (by simpa using avOfL_rep I β zs)
      ⟨by simp, fun j p q hj hq => by
        simp only [List.getElem?_map] at hj hq
        cases hx : parts.toList[j]? with
        | none => rw [hx] at hj; cases hj
        | some y =>
          rw [hx] at hj hq
          simp only [Option.map_some, Option.some.injEq] at hj hq
          subst hj hq
          exact ⟨rfl, h1 y (List.mem_of_getElem? hx)⟩⟩ hf
    refine ⟨.agg r, ?_, by simp only [Rep]; exact ⟨r, rfl, h3⟩⟩
    have : (Instr.build T (parts.map fun (i, x) => (i, ρ x))).run G.P w = .ok (.agg r) w := hT.run _ r w (by simpa using h2)
    simp [execOp, h, this]

/-! ### slice literals -/
structure SliS (P : Program) (T E sz : Nat) (zs : List Value) : Prop where
  und : P.underlying T = some (.slice E)
  size : ∀ w, (sizeOf E).run P w = .ok sz w
  zero : ∀ w, ∃ z, (zeroValue E).run P w = .ok z w ∧ z.cells = zs.toArray
  zsz : zs.length = sz

theorem flatten_len {sz : Nat} : ∀ (xs : List (List AV)), (∀ e ∈ xs, e.length = sz) → xs.flatten.length = xs.length * sz
  | [], _ => by simp
  | e :: r, h => by
    simp only [List.flatten_cons, List.length_append, List.length_cons, h e (by simp), flatten_len r (fun x hx => h x (by simp [hx]))]
    rw [Nat.add_mul]; omega

/-- 'xs': the elements, sealed; the places are filled in order -/
def fillAll (sz : Nat) : Nat → List (Nat × AV) → Option (List (List AV))
  | _, [] => some []
  | k, (i, a) :: r => bif Nat.beq i k && Nat.beq (cellsAV a).length sz && a.flat then (fillAll sz (k + 1) r).map (cellsAV a :: ·) else none

theorem fillAll_rep {I : Imm} {β : Nat → Value} (sz : Nat) : ∀ (parts : List (Nat × AV)) (vals : List (Nat × Value)) (k : Nat) (L : Array Value) (out : List (List AV)),
    (parts.length = vals.length ∧ ∀ (j : Nat) (p : Nat × AV) (q : Nat × Value), parts[j]? = some p → vals[j]? = some q → p.1 = q.1 ∧ Rep I β p.2 q.2) → fillAll sz k parts = some out → (k + parts.length) * sz ≤ L.size →
    ∃ r us, Instr.fill (fun i => some (i * sz, sz)) L vals = some r ∧ r.size = L.size ∧ r.toList = L.toList.take (k * sz) ++ us ++ L.toList.drop ((k + parts.length) * sz) ∧ RepL I β out.flatten us ∧ (∀ e ∈ out, e.length = sz) ∧ out.length = parts.length
  | [], vals, k, L, out, hv, hf, _ => by
    have : vals = [] := List.eq_nil_of_length_eq_zero hv.1.symm
    subst this
    simp only [fillAll, Option.some.injEq] at hf
    subst hf
    exact ⟨L, [], rfl, rfl, by simp, by simp [RepL], by simp, rfl⟩
  | (i, a) :: rest, vals, k, L, out, hv, hf, hsz => by
    cases vals with
    | nil => simp at hv
    | cons q vs =>
      obtain ⟨i', v⟩ := q
      have h0 := hv.2 0 _ _ rfl rfl
      simp only at h0
      obtain ⟨rfl, hrep⟩ := h0
      simp only [fillAll] at hf
      cases hc : (Nat.beq i k && Nat.beq (cellsAV a).length sz && a.flat) with
      | false => rw [hc] at hf; simp at hf
      | true =>
        rw [hc] at hf
        simp only [cond_true, Option.map_eq_some_iff] at hf
        obtain ⟨out', hf, rfl⟩ := hf
        simp only [Bool.and_eq_true, Nat.beq_eq] at hc
        obtain ⟨⟨rfl, c1⟩, c3⟩ := hc
        obtain ⟨d1, d2⟩ := AV.flat_spec c3 hrep
        have dl := RepL_length _ _ d1
        simp only [Array.length_toList] at dl
        have hfit : i * sz + sz ≤ L.size := by
          have : (i + 1) * sz ≤ (i + ((i, a) :: rest).length) * sz := Nat.mul_le_mul_right _ (by simp)
          rw [Nat.add_mul, Nat.one_mul] at this
          omega
        have e := foldl_set v.cells.toList 0 (i * sz) L (by simp; omega)
        have e2 : (v.cells.zipIdx.foldl (fun cs (x : Value × Nat) => cs.setIfInBounds (i * sz + x.2) x.1) L) = ((v.cells.toList.zipIdx 0).foldl (fun (acc : Array Value) (x : Value × Nat) => acc.setIfInBounds (i * sz + x.2) x.1) L) := by
          rw [← Array.foldl_toList, Array.toList_zipIdx]
        simp only [Instr.fill]
        rw [if_neg (show ¬ ((decide (v.cells.size ≠ sz) || decide (i * sz + v.cells.size > L.size)) = true) from by simp; omega)]
        rw [e2]
        generalize hL' : ((v.cells.toList.zipIdx 0).foldl (fun (acc : Array Value) (x : Value × Nat) => acc.setIfInBounds (i * sz + x.2) x.1) L) = L' at e
        have hsL : L'.size = L.size := by
          rw [← Array.length_toList, e]
          simp
          omega
        obtain ⟨r, us, r1, r2, r3, r4, r5, r6⟩ := fillAll_rep sz rest vs (i + 1) L' out' ⟨by simpa using hv.1, fun j p q hj hq => hv.2 (j + 1) p q (by simpa using hj) (by simpa using hq)⟩ hf (by rw [hsL]; simp at hsz; rw [show i + 1 + rest.length = i + (rest.length + 1) from by omega]; exact hsz)
        refine ⟨r, v.cells.toList ++ us, r1, r2.trans hsL, ?_, ?_, ?_, by simp [r6]⟩
        · rw [r3, e]
          have hmul : (i + 1) * sz = i * sz + sz := by rw [Nat.add_mul, Nat.one_mul]
          have l1 : (L.toList.take (i * sz + 0)).length = i * sz := by simp; omega
          have l2 : (L.toList.take (i * sz + 0) ++ v.cells.toList).length = (i + 1) * sz := by rw [List.length_append, l1, hmul]; simp; omega
          rw [List.take_append_of_le_length (by rw [l2]; exact Nat.le_refl _), ← l2, List.take_length]
          have hd : List.drop ((i + 1 + rest.length) * sz) (L.toList.take (i * sz + 0) ++ v.cells.toList ++ L.toList.drop (i * sz + 0 + v.cells.toList.length)) = L.toList.drop ((i + ((i, a) :: rest).length) * sz) := by
            rw [List.drop_append, l2, List.drop_drop]
            have : (i + 1) * sz ≤ (i + 1 + rest.length) * sz := Nat.mul_le_mul_right _ (by omega)
            rw [List.drop_of_length_le (by rw [l2]; exact this), List.nil_append]
            congr 1
            simp only [Array.length_toList, List.length_cons]
            rw [show i + (rest.length + 1) = i + 1 + rest.length from by omega]
            omega
          rw [hd]
          simp [List.append_assoc]
        · simp only [List.flatten_cons]
          exact RepL_append _ _ _ _ d1 r4
        · intro e he
          rcases List.mem_cons.1 he with rfl | he
          · exact c1
          · exact r5 e he

theorem Y.buildSlice {T E sz len : Nat} {parts : Array (Nat × Operand)} {zs : List Value} {xs : List (List AV)} (h : o.op = .buildSlice T len parts) (hT : SliS G.P T E sz zs) (hl : parts.size = len) (hs : len * sz ≤ 65536 ∧ len ≤ 65536)
    (hf : fillAll sz 0 (parts.toList.map fun p => (p.1, ev p.2)) = some xs) (hc : closedL xs.flatten = true) : Yields G o ev σ [] [] (.lst true xs) := by
  intro σ' cx I β w ρ hR hw hm hop
  have h1 : ∀ p ∈ parts.toList, Rep I β (ev p.2) (ρ p.2) := fun p hp => hop p.2 (by simp only [h, Op.operands]; simpa using ⟨p.1, by simpa using hp⟩)
  obtain ⟨z, hz1, hz2⟩ := hT.zero w
  -- the cells before they are filled
  let L : Array Value := (Array.range (len * sz)).map ((if len * sz = 0 then #[] else z.cells)[· % (if len * sz = 0 then #[] else z.cells : Array Value).size]!)
  have hLs : L.size = len * sz := by simp [L]
  obtain ⟨r, us, r1, r2, r3, r4, r5, r6⟩ := fillAll_rep (I := I) (β := β) sz (parts.toList.map fun p => (p.1, ev p.2)) (parts.toList.map fun p => (p.1, ρ p.2)) 0 L xs
    ⟨by simp, fun j p q hj hq => by
      simp only [List.getElem?_map] at hj hq
      cases hx : parts.toList[j]? with
      | none => rw [hx] at hj; cases hj
      | some y =>
        rw [hx] at hj hq
        simp only [Option.map_some, Option.some.injEq] at hj hq
        subst hj hq
        exact ⟨rfl, h1 y (List.mem_of_getElem? hx)⟩⟩ hf (by simp [hLs, hl])
  have hru : r.toList = us := by
    rw [r3]
    have e0 : L.toList.drop ((0 + (parts.toList.map fun p => (p.1, ev p.2)).length) * sz) = [] := List.drop_of_length_le (by simp [hLs, hl])
    rw [e0]; simp
  have hxl : xs.length = len := by rw [r6]; simp [hl]
  have hrun : (execOp ρ o).run G.P w = .ok (.value (.slice (some ⟨w.heap.size, 0, none⟩) len len)) (w.alloc (.cells r E)) := by
    have hlim : ¬ (len * sz > 2 ^ 24) := by have : (2 : Nat) ^ 24 = 16777216 := by decide
                                            omega
    have hfill : Instr.fill (fun i => some (i * sz, sz)) L (parts.map fun (i, x) => (i, ρ x)).toList = some r := by simpa using r1
    simp only [execOp, h, Instr.buildSlice, Sem.run_bind, run_underlying hT.und, hT.size, Result.andThen_ok, hlim, if_false]
    by_cases h0 : len * sz = 0
    · have hL0 : L = (Array.range (len * sz)).map ((#[] : Array Value)[· % (#[] : Array Value).size]!) := by simp only [L, h0, if_true]
      rw [hL0] at hfill
      simp only [h0, if_true, Sem.run_bind, Sem.run_pure, Result.andThen_ok] at hfill ⊢
      simp only [hfill]
      simp [newRow]
    · have hL0 : L = (Array.range (len * sz)).map (z.cells[· % z.cells.size]!) := by simp only [L, h0, if_false]
      rw [hL0] at hfill
      simp only [h0, if_false, Sem.run_bind, hz1, Sem.run_pure, Result.andThen_ok]
      simp only [hfill]
      simp [newRow]
  rw [hrun]
  obtain ⟨I', hle, hcells, hw'⟩ := hw.lay r E
  refine ⟨I', β, ?_, hw', hle, fun _ _ => rfl⟩
  simp only [Rep, RepC]
  refine ⟨_, len, by rw [hxl], by omega, ?_, fun _ => hxl.symm, .inr ⟨w.heap.size, 0, rfl, ?_⟩⟩
  · simp only [maxLen]; omega
  · have := RepL.closed _ _ hc r4
    rw [← hru] at this
    exact RepRows_of xs 0 _ (RepCs_mono hle _ _ this) fun j v hv => by rw [Nat.zero_add]; exact hcells j v (by simpa using hv)
end ops
end Go.Proofs.Ytggbjbcgfelgiaa
