/- Several texts in one. No condition but those that stand in each. -/
import Derived.Test.YtflifgcoleknlaaAB
import Derived.Maps.RangeRun
import Derived.Test.YtflifgcoleknlaaBA
import Derived.Laws.MakeOwn
import Derived.Laws.OwnMore
/- Bundles of own rows: taken out, put back, laid down for good. No condition but those that stand in each. -/
namespace Go.Proofs.Ytflifgcoleknlaa
set_option linter.all false
open Go
section redo
variable {G : Gl} {cx : Cx} {I : Imm} {β : Nat → Value} {σ : Sto} {w : World}
/-- a part of the store, in other words: what it owns it owned before -/
theorem RelW.redo (h : RelW G cx I β σ w) {M news : List Nat} {σ2 : Sto} {β2 : Nat → Value} {w' : World} {b : Nat} (hk : Kept w w' b) (hIb : ∀ o, I b o = none) (hfree : ∀ x, x ∉ M → (σ.get x).isSome → b ∉ blks (β x)) (hp : Place cx b)
    (hσ : ∀ x, x ∉ M → σ2.get x = σ.get x) (hβ : ∀ x, x ∉ news → β2 x = β x) (hnews : ∀ x ∈ news, x ∈ M ∧ x ∉ G.ids) (hcl : ∀ x o, x ∉ M → σ.get x = some o → entsRefs news.contains o = false)
    (hobj : ∀ x ∈ M, ∀ o, σ2.get x = some o → ObjRep cx I β2 w' x o)
    (hown : ∀ x ∈ M, (σ2.get x).isSome → ∀ c ∈ blks (β2 x), ∃ y ∈ M, (σ.get y).isSome ∧ c ∈ blks (β y))
    (hsep : ∀ x ∈ M, ∀ y ∈ M, x ≠ y → (σ2.get x).isSome → (σ2.get y).isSome → ∀ c ∈ blks (β2 x), c ∉ blks (β2 y)) : RelW G cx I β2 σ2 w' := by
  have hβn : ∀ x, x ∉ M → β2 x = β x := fun x hx => hβ x fun hn => hx (hnews x hn).1
  exact {
    good := fun b' o v hv => by
      have h1 := h.good b' o v hv
      have hlt : b' < w.heap.size := World.block_lt_of_cell? w _ h1
      have hne : b' ≠ b := fun e => by subst e; rw [hIb] at hv; cases hv
      rw [World.cell?_of_block (w := w) (hk.block b' hne hlt)]
      exact h1
    goodM := fun b' v hv => by
      have hne : b' ≠ b := fun e => by subst e; rw [hIb] at hv; cases hv
      obtain ⟨es, clock, h1, h2⟩ := h.goodM b' v hv
      exact ⟨es, clock, by rw [hk.block b' hne (lt_of_some h1)]; exact h1, h2⟩
    imono := h.imono
    iext := h.iext
    frame := fun b' hb hn => by
      have : b' ≠ b := fun e => by
        subst e
        rcases hp with q | q
        · omega
        · exact hn q
      rw [hk.block b' this (by have := h.size; omega)]
      exact h.frame b' hb hn
    size := Nat.le_trans h.size hk.size
    tape := hk.tape.trans h.tape
    os := hk.os.trans h.os
    output := hk.output.trans h.output
    drawn := Nat.le_trans h.drawn hk.drawn
    objs := fun x o hx => by
      by_cases hm : x ∈ M
      · exact hobj x hm o hx
      · rw [hσ x hm] at hx
        have h1 := (h.objs x o hx).beta (β' := β2) (p := news.contains) (fun d hd => hβ d (by simpa using hd)) (by simpa using fun hn => hm (hnews x hn).1) (hcl x o hm hx)
        exact h1.keep hk rfl (by rw [hβn x hm]; exact hfree x hm (by rw [hx]; rfl)) (ImmLe.refl I) (fun _ _ _ => rfl) (HLe.refl β2)
    sepB := fun x y hx hy hne c hc hc' => by
      by_cases hm : x ∈ M
      · by_cases hm' : y ∈ M
        · exact hsep x hm y hm' hne hx hy c hc hc'
        · obtain ⟨z, z1, z2, z3⟩ := hown x hm hx c hc
          rw [hσ y hm'] at hy
          rw [hβn y hm'] at hc'
          exact h.sepB z y z2 hy (fun e => hm' (e ▸ z1)) c z3 hc'
      · rw [hσ x hm] at hx
        rw [hβn x hm] at hc
        by_cases hm' : y ∈ M
        · obtain ⟨z, z1, z2, z3⟩ := hown y hm' hy c hc'
          exact h.sepB x z hx z2 (fun e => hm (e ▸ z1)) c hc z3
        · rw [hσ y hm'] at hy
          rw [hβn y hm'] at hc'
          exact h.sepB x y hx hy hne c hc hc'
    keep := fun x hx => by
      have : x ∉ news := fun hn => (hnews x hn).2 hx
      rw [hβ x this]; exact h.keep x hx }
/-- .. the world stands -/
theorem RelW.redo0 (h : RelW G cx I β σ w) {M news : List Nat} {σ2 : Sto} {β2 : Nat → Value}
  (hσ : ∀ x, x ∉ M → σ2.get x = σ.get x) (hβ : ∀ x, x ∉ news → β2 x = β x) (hnews : ∀ x ∈ news, x ∈ M ∧ x ∉ G.ids) (hcl : ∀ x o, x ∉ M → σ.get x = some o → entsRefs news.contains o = false)
  (hobj : ∀ x ∈ M, ∀ o, σ2.get x = some o → ObjRep cx I β2 w x o)
  (hown : ∀ x ∈ M, (σ2.get x).isSome → ∀ c ∈ blks (β2 x), ∃ y ∈ M, (σ.get y).isSome ∧ c ∈ blks (β y))
  (hsep : ∀ x ∈ M, ∀ y ∈ M, x ≠ y → (σ2.get x).isSome → (σ2.get y).isSome → ∀ c ∈ blks (β2 x), c ∉ blks (β2 y)) : RelW G cx I β2 σ2 w :=
 h.redo (b := w.heap.size) ⟨fun _ _ _ => rfl, Nat.le_refl _, rfl, rfl, rfl, Nat.le_refl _⟩ (fun o => h.imm_none (Nat.le_refl _) o) (fun x _ hs e => by
  obtain ⟨o, hs⟩ := Option.isSome_iff_exists.1 hs
  exact absurd (h.obj_lt hs e) (by omega)) (.inl h.size) hσ hβ hnews hcl hobj hown hsep
end redo
/-! ### a bundle, row by row -/
section rows
variable {cx : Cx} {I : Imm} {w : World}
theorem BunV.length : ∀ {els : List Rw} {hs : List Value}, BunV cx I w els hs → hs.length = els.length
 | [], _, h => by rw [show _ = [] from h]; rfl
 | x :: r, _, h => by obtain ⟨u, us, rfl, _, _, h3⟩ := h; simp [BunV.length h3]
theorem BunV.get : ∀ {els : List Rw} {hs : List Value}, BunV cx I w els hs → ∀ {i : Nat} {x : Rw}, els[i]? = some x → ∃ v, hs[i]? = some v ∧ RowV cx I w x v
 | [], _, _, i, x, hi => by simp at hi
 | y :: r, _, h, i, x, hi => by
  obtain ⟨u, us, rfl, h1, _, h3⟩ := h
  cases i with
  | zero => simp at hi; subst hi; exact ⟨u, rfl, h1⟩
  | succ i => simp at hi ⊢; exact h3.get hi
theorem BunV.ne : ∀ {els : List Rw} {hs : List Value}, BunV cx I w els hs → ∀ {i j : Nat} {u v : Value} {b : Nat}, i ≠ j → hs[i]? = some u → hs[j]? = some v → blk u = some b → blk v ≠ some b
 | [], _, h, i, j, u, v, b, _, hi, _, _ => by rw [show _ = [] from h] at hi; simp at hi
 | y :: r, _, h, i, j, u, v, b, hij, hi, hj, hu => by
  obtain ⟨z, us, rfl, h1, h2, h3⟩ := h
  cases i with
  | zero =>
   cases j with
   | zero => exact absurd rfl hij
   | succ j =>
    simp at hi hj; subst hi
    intro hv
    exact h2 b hu (List.mem_filterMap.2 ⟨v, List.mem_of_getElem? hj, hv⟩)
  | succ i =>
   cases j with
   | zero =>
    simp at hi hj; subst hj
    intro hv
    exact h2 b hv (List.mem_filterMap.2 ⟨u, List.mem_of_getElem? hi, hu⟩)
   | succ j => simp at hi hj; exact h3.ne (fun e => hij (by rw [e])) hi hj hu
theorem BunV.set : ∀ {els : List Rw} {hs : List Value}, BunV cx I w els hs → ∀ {i : Nat} {x : Rw} {v : Value}, RowV cx I w x v → (∀ j u b, j ≠ i → hs[j]? = some u → blk v = some b → blk u ≠ some b) → BunV cx I w (els.set i x) (hs.set i v)
 | [], _, h, i, x, v, _, _ => by rw [show _ = [] from h]; simp [BunV]
 | y :: r, _, h, i, x, v, hx, hd => by
  obtain ⟨z, us, rfl, h1, h2, h3⟩ := h
  cases i with
  | zero =>
   refine ⟨v, us, rfl, hx, fun b hb hm => ?_, h3⟩
   obtain ⟨u, hu, hub⟩ := List.mem_filterMap.1 hm
   obtain ⟨j, hj⟩ := List.getElem?_of_mem hu
   exact hd (j + 1) u b (by simp) (by simpa using hj) hb hub
  | succ i =>
   refine ⟨z, us.set i v, rfl, h1, fun b hb hm => ?_, h3.set hx fun j u b hj hu hb => hd (j + 1) u b (fun e => hj (by simpa using e)) (by simpa using hu) hb⟩
   obtain ⟨u, hu, hub⟩ := List.mem_filterMap.1 hm
   rcases List.mem_or_eq_of_mem_set hu with hu | rfl
   ·exact h2 b hb (List.mem_filterMap.2 ⟨u, hu, hub⟩)
   ·exact hd 0 z b (by simp) rfl hub hb
theorem BunV.push : ∀ {els : List Rw} {hs : List Value}, BunV cx I w els hs → ∀ {x : Rw} {v : Value}, RowV cx I w x v → (∀ u b, u ∈ hs → blk v = some b → blk u ≠ some b) → BunV cx I w (els ++ [x]) (hs ++ [v])
 | [], _, h, x, v, hx, _ => by rw [show _ = [] from h]; exact ⟨v, [], rfl, hx, by simp, rfl⟩
 | y :: r, _, h, x, v, hx, hd => by
  obtain ⟨z, us, rfl, h1, h2, h3⟩ := h
  refine ⟨z, us ++ [v], rfl, h1, fun b hb hm => ?_, h3.push hx fun u b hu => hd u b (List.mem_cons_of_mem _ hu)⟩
  obtain ⟨u, hu, hub⟩ := List.mem_filterMap.1 hm
  rcases List.mem_append.1 hu with hu | hu
  ·exact h2 b hb (List.mem_filterMap.2 ⟨u, hu, hub⟩)
  ·simp at hu; subst hu
   exact hd z b (by simp) hub hb
theorem BunV.other {cx' : Cx} {I' : Imm} {w' : World} {els : List Rw} {hs : List Value} (h : BunV cx I w els hs) (hle : ImmLe I I') (hb : ∀ b ∈ hs.filterMap blk, (b < w.heap.size → w'.heap[b]? = w.heap[b]?) ∧ (∀ o, I' b o = I b o) ∧ (Place cx b → Place cx' b)) : BunV cx' I' w' els hs := h.go hle hb
theorem blks_tuple (vs : Array Value) : blks (.tuple vs) = vs.toList.filterMap blk := rfl
theorem mem_set_blk {hs : List Value} {i : Nat} {v : Value} {b : Nat} (h : b ∈ (hs.set i v).filterMap blk) : b ∈ hs.filterMap blk ∨ blk v = some b := by
 obtain ⟨u, hu, hub⟩ := List.mem_filterMap.1 h
 rcases List.mem_or_eq_of_mem_set hu with hu | rfl
 ·exact .inl (List.mem_filterMap.2 ⟨u, hu, hub⟩)
 ·exact .inr hub
/-- what a row is, as an object -/
def Rw.obj : Rw → AObj
 | .sl T sz xs => .slice T sz xs 0 false
 | .mp K E ents => .map K E ents
def Rw.empty : Rw → Rw
 | .sl T sz _ => .sl T sz []
 | .mp _ _ _ => .sl 0 0 []
theorem Rw.empty_v (x : Rw) : RowV cx I w x.empty (.slice none 0 0) := by cases x <;> exact .inl ⟨rfl, rfl⟩
theorem RowV.obj {x : Rw} {v : Value} {β : Nat → Value} {d : Nat} (h : RowV cx I w x v) (hd : β d = v) : ObjRep cx I β w d x.obj := by
 cases x with
 | sl T sz xs =>
  simp only [Rw.obj, ObjRep, hd]
  rcases h with ⟨h, rfl⟩ | ⟨b, cap, arr, h1, h2, h3, h4, h5, h6, h7, h8, h9⟩
  ·exact .inr (.inl ⟨h, rfl, trivial⟩)
  ·exact .inr (.inr ⟨b, cap, arr, h1, h2, h3, h4, h5, h6, h7, Nat.zero_le _, fun h => (by cases h), fun o _ => h8 o, h9⟩)
 | mp K E ents =>
  simp only [Rw.obj, ObjRep, hd]
  obtain ⟨r, es, clock, h1, h2, h3, h4, h5, h6⟩ := h
  exact .inr ⟨r, es, clock, h1, h2, h3, h4, h5, h6⟩
theorem RowV.of_slice {T sz : Nat} {xs : List (List AV)} {fz : Bool} {β : Nat → Value} {d : Nat} (h : ObjRep cx I β w d (.slice T sz xs 0 fz)) (hn : β d ≠ .nilFunc) : RowV cx I w (.sl T sz xs) (β d) := by
 simp only [ObjRep] at h
 rcases h with h | ⟨h, rfl, _⟩ | ⟨b, cap, arr, h1, h2, h3, h4, h5, h6, h7, _, _, h8, h9⟩
 ·exact absurd h hn
 ·exact .inl ⟨h, rfl⟩
 ·exact .inr ⟨b, cap, arr, h1, h2, h3, h4, h5, h6, h7, fun o => h8 o (by omega), h9⟩
theorem RowV.ne {x : Rw} {v : Value} (h : RowV cx I w x v) : v ≠ .nilFunc ∧ (isSl v = true ∨ isMp v = true) := by
 cases x with
 | sl T sz xs =>
  rcases h with ⟨h, _⟩ | ⟨b, cap, arr, h1, _⟩
  ·rw [h]; simp [isSl]
  ·rw [h1]; simp [isSl]
 | mp K E ents => obtain ⟨r, es, clock, h1, _⟩ := h; rw [h1]; simp [isMp]
theorem RowV.blks_one {x : Rw} {v : Value} (h : RowV cx I w x v) {b : Nat} (hb : b ∈ blks v) : blk v = some b := by
 cases v with
 | tuple vs =>
  have := h.ne.2
  simp [isSl, isMp] at this
 | _ => simpa [blks] using hb
end rows
/-! ### what a bundle's outer object is -/
def AObj.reb (e2 : Nat) (h2 : Option (Option Nat × Nat)) : AObj → AObj
 | .outS T _ n _ => .outS T e2 n h2
 | .outM K E _ keys _ fx => .outM K E e2 keys h2 fx
 | o => o
def AObj.outE : AObj → Option (Nat × Option (Option Nat × Nat))
 | .outS _ e _ h => some (e, h)
 | .outM _ _ e _ h _ => some (e, h)
 | _ => none
theorem ObjRep.outer {cx : Cx} {I : Imm} {β : Nat → Value} {w : World} {d : Nat} {o : AObj} {e : Nat} {hole : Option (Option Nat × Nat)} (ho : o.outE = some (e, hole)) (h : ObjRep cx I β w d o) :
  β d = .nilFunc ∨ ∃ hs as, β e = .tuple hs ∧ Holed β hs.toList as hole ∧ ∃ b, blk (β d) = some b := by
 cases o <;> simp only [AObj.outE, Option.some.injEq, Prod.mk.injEq] at ho <;> first | (cases ho; done) | skip
 ·obtain ⟨rfl, rfl⟩ := ho
  simp only [ObjRep] at h
  rcases h with q | ⟨b, cap, arr, hs, q1, q2, q3, q4, q5, q6, q7, q8, q9, q10⟩
  ·exact .inl q
  ·exact .inr ⟨hs, _, q6, q8, b, by rw [q1]; rfl⟩
 ·obtain ⟨rfl, rfl⟩ := ho
  simp only [ObjRep] at h
  rcases h with q | ⟨r, es, clock, hs, as, q1, q2, q3, q4, q5, q6, q7, q8⟩
  ·exact .inl q
  ·exact .inr ⟨hs, _, q3, q4, r, by rw [q1]; rfl⟩
theorem ObjRep.rebase {cx : Cx} {I : Imm} {β β2 : Nat → Value} {w : World} {d : Nat} {o : AObj} {e e2 : Nat} {hole h2 : Option (Option Nat × Nat)} {hs hs2 : Array Value} (ho : o.outE = some (e, hole)) (h : ObjRep cx I β w d o) (hd : β2 d = β d)
  (he : β e = .tuple hs) (he2 : β2 e2 = .tuple hs2) (hn : hs2.size = hs.size) (hh : ∀ as, Holed β hs.toList as hole → Holed β2 hs2.toList as h2) : ObjRep cx I β2 w d (o.reb e2 h2) := by
 cases o <;> simp only [AObj.outE, Option.some.injEq, Prod.mk.injEq] at ho <;> first | (cases ho; done) | skip
 ·obtain ⟨rfl, rfl⟩ := ho
  simp only [ObjRep, AObj.reb, hd] at h ⊢
  rcases h with q | ⟨b, cap, arr, hs', q1, q2, q3, q4, q5, q6, q7, q8, q9, q10⟩
  ·exact .inl q
  ·rw [he] at q6; cases q6
   exact .inr ⟨b, cap, arr, hs2, q1, q2, q3, q4, q5, he2, hn.trans q7, hh _ q8, q9, q10⟩
 ·obtain ⟨rfl, rfl⟩ := ho
  simp only [ObjRep, AObj.reb, hd] at h ⊢
  rcases h with q | ⟨r, es, clock, hs', as, q1, q2, q3, q4, q5, q6, q7, q8⟩
  ·exact .inl q
  ·rw [he] at q3; cases q3
   exact .inr ⟨r, es, clock, hs2, as, q1, q2, he2, hh _ q4, q5, q6, q7, q8⟩
section take
variable {G : Gl} {cx : Cx} {I : Imm} {β : Nat → Value} {σ : Sto} {w : World}
/-- the store behind a row's taking: d the outer object, e its bundle, e2 the new bundle, t the row -/
def takeS (σ : Sto) (d e e2 t : Nat) (od : AObj) (els : List Rw) (i : Nat) (x : Rw) : Sto := (t, x.obj) :: (e2, .bun (els.set i x.empty)) :: (d, od.reb e2 (some (some i, t))) :: σ.minus [d, e]
theorem get3 {σ : Sto} {a b c : Nat} {oa ob oc : AObj} {M : List Nat} (x : Nat) : Sto.get ((a, oa) :: (b, ob) :: (c, oc) :: σ.minus M) x = if a = x then some oa else if b = x then some ob else if c = x then some oc else if x ∈ M then none else σ.get x := by
 rw [Sto.get_cons, Sto.get_cons, Sto.get_cons, Sto.minus_get]
theorem get2 {σ : Sto} {a b : Nat} {oa ob : AObj} {M : List Nat} (x : Nat) : Sto.get ((a, oa) :: (b, ob) :: σ.minus M) x = if a = x then some oa else if b = x then some ob else if x ∈ M then none else σ.get x := by
 rw [Sto.get_cons, Sto.get_cons, Sto.minus_get]
theorem RelW.take (h : RelW G cx I β σ w) {d e e2 t i : Nat} {od : AObj} {els : List Rw} {x : Rw} (hd : σ.get d = some od) (ho : od.outE = some (e, none)) (he : σ.get e = some (.bun els)) (hx : els[i]? = some x) (hdn : β d ≠ .nilFunc)
  (ht : σ.get t = none) (he2 : σ.get e2 = none) (hte : t ≠ e2) (hti : t ∉ G.ids) (hei : e2 ∉ G.ids) (hcl : σ.clean [t, e2].contains = true) :
  ∃ hs : Array Value, β e = .tuple hs ∧ ∃ v, hs[i]? = some v ∧ RowV cx I w x v ∧ RelW G cx I (fun y => if y = t then v else if y = e2 then .tuple (hs.setIfInBounds i (.slice none 0 0)) else β y) (takeS σ d e e2 t od els i x) w := by
 rcases (h.objs d od hd).outer ho with q | ⟨hs, as, q1, q2, bd, q3⟩
 ·exact absurd q hdn
 have hbu := h.objs e _ he
 simp only [ObjRep, q1, Value.tuple.injEq, reduceCtorEq, false_or] at hbu
 obtain ⟨hs', rfl, hb⟩ := hbu
 obtain ⟨v, v1, v2⟩ := hb.get hx
 refine ⟨hs, q1, v, by simpa using v1, v2, ?_⟩
 have hne : ∀ y, (σ.get y).isSome → y ≠ t ∧ y ≠ e2 := fun y hy => ⟨fun e => (by subst e; rw [ht] at hy; cases hy), fun e => (by subst e; rw [he2] at hy; cases hy)⟩
 have hdne := hne d (by rw [hd]; rfl)
 have hene := hne e (by rw [he]; rfl)
 have hde : d ≠ e := fun e' => by subst e'; rw [hd] at he; cases he; cases ho
 have hilt : i < hs.toList.length := (List.getElem?_eq_some_iff.1 v1).1
 let β2 : Nat → Value := fun y => if y = t then v else if y = e2 then .tuple (hs.setIfInBounds i (.slice none 0 0)) else β y
 have b2t : β2 t = v := by show (if _ then _ else _) = _; rw [if_pos rfl]
 have b2e : β2 e2 = .tuple (hs.setIfInBounds i (.slice none 0 0)) := by show (if _ then _ else _) = _; rw [if_neg (Ne.symm hte), if_pos rfl]
 have b2d : β2 d = β d := by show (if _ then _ else _) = _; rw [if_neg hdne.1, if_neg hdne.2]
 have hsl : (hs.setIfInBounds i (.slice none 0 0)).toList = hs.toList.set i (.slice none 0 0) := by simp
 refine h.redo0 (M := [d, e, e2, t]) (news := [t, e2]) (β2 := β2) (fun y hy => ?_) (fun y hy => ?_) (fun y hy => ?_) (fun y o _ hyo => (Sto.clean_get hcl y o hyo).2) (fun y hy o hyo => ?_) (fun y hy hs2 c hc => ?_) (fun y hy z hz hyz hs1 hs2 c hc hc' => ?_)
 ·simp only [List.mem_cons, List.not_mem_nil, or_false, not_or] at hy
  rw [takeS, get3, if_neg (Ne.symm hy.2.2.2), if_neg (Ne.symm hy.2.2.1), if_neg (Ne.symm hy.1), if_neg (by simp [hy.1, hy.2.1])]
 ·simp only [List.mem_cons, List.not_mem_nil, or_false, not_or] at hy
  show (if _ then _ else _) = _
  rw [if_neg hy.1, if_neg hy.2]
 ·simp only [List.mem_cons, List.not_mem_nil, or_false] at hy
  rcases hy with rfl | rfl
  ·exact ⟨by simp, hti⟩
  ·exact ⟨by simp, hei⟩
 ·rw [takeS, get3] at hyo
  split at hyo
  ·rename_i e'; subst e'; cases hyo; exact v2.obj b2t
  ·split at hyo
   ·rename_i e'; subst e'; cases hyo
    simp only [ObjRep]
    refine .inr ⟨_, b2e, ?_⟩
    rw [hsl]
    exact hb.set x.empty_v fun j u b _ _ hb' => by cases hb'
   ·split at hyo
    ·rename_i e'; subst e'; cases hyo
     refine (h.objs d od hd).rebase ho b2d q1 b2e (by simp) fun as has => ?_
     rw [show as = hs.toList from has, hsl]
     refine ⟨by simpa using hilt, by rw [b2t]; exact v2.ne.1, ?_⟩
     rw [b2t, List.set_set]
     apply List.ext_getElem?
     intro j
     rw [List.getElem?_set]
     by_cases hij : i = j
     ·subst hij; rw [if_pos rfl, if_pos hilt]; exact v1
     ·rw [if_neg hij]
    ·split at hyo
     ·cases hyo
     ·rename_i h1 h2 h3 h4
      simp only [List.mem_cons, List.not_mem_nil, or_false] at hy h4
      rcases hy with rfl | rfl | rfl | rfl
      ·exact absurd rfl h3
      ·exact absurd (.inr rfl) h4
      ·exact absurd rfl h2
      ·exact absurd rfl h1
 ·simp only [List.mem_cons, List.not_mem_nil, or_false] at hy
  rw [takeS, get3] at hs2
  by_cases hyd : y = d
  ·subst hyd; rw [b2d] at hc; exact ⟨y, by simp, by rw [hd]; rfl, hc⟩
  by_cases hyt : y = t
  ·subst hyt
   rw [b2t] at hc
   exact ⟨e, by simp, by rw [he]; rfl, by rw [q1, blks_tuple]; exact List.mem_filterMap.2 ⟨v, List.mem_of_getElem? v1, v2.blks_one hc⟩⟩
  by_cases hye : y = e2
  ·subst hye
   rw [b2e, blks_tuple, hsl] at hc
   rcases mem_set_blk hc with hc | hc
   ·exact ⟨e, by simp, by rw [he]; rfl, by rw [q1, blks_tuple]; exact hc⟩
   ·cases hc
  ·rw [if_neg (Ne.symm hyt), if_neg (Ne.symm hye), if_neg (Ne.symm hyd), if_pos] at hs2
   ·cases hs2
   ·rcases hy with rfl | rfl | rfl | rfl
    ·exact absurd rfl hyd
    ·simp
    ·exact absurd rfl hye
    ·exact absurd rfl hyt
 ·-- three objects: d, e2, t
  have cls : ∀ y, y ∈ [d, e, e2, t] → (Sto.get (takeS σ d e e2 t od els i x) y).isSome → y = d ∨ y = e2 ∨ y = t := fun y hy hs2 => by
   rw [takeS, get3] at hs2
   simp only [List.mem_cons, List.not_mem_nil, or_false] at hy
   rcases hy with rfl | rfl | rfl | rfl
   ·exact .inl rfl
   ·rw [if_neg (Ne.symm hene.1), if_neg (Ne.symm hene.2), if_neg hde, if_pos (by simp)] at hs2; cases hs2
   ·exact .inr (.inl rfl)
   ·exact .inr (.inr rfl)
  have hde0 : ∀ c, c ∈ blks (β d) → c ∉ blks (β e) := h.sepB d e (by rw [hd]; rfl) (by rw [he]; rfl) hde
  have inE : ∀ c, c ∈ blks (β2 e2) → ∃ j u, j ≠ i ∧ hs.toList[j]? = some u ∧ blk u = some c := fun c hc => by
   rw [b2e, blks_tuple, hsl] at hc
   obtain ⟨u, hu, hub⟩ := List.mem_filterMap.1 hc
   obtain ⟨j, hj⟩ := List.getElem?_of_mem hu
   rw [List.getElem?_set] at hj
   split at hj
   ·rename_i hij
    cases hj; cases hub
   ·rename_i hij; exact ⟨j, u, fun e => hij e.symm, hj, hub⟩
  have inE' : ∀ c, c ∈ blks (β2 e2) → c ∈ blks (β e) := fun c hc => by
   obtain ⟨j, u, _, hj, hu⟩ := inE c hc
   rw [q1, blks_tuple]; exact List.mem_filterMap.2 ⟨u, List.mem_of_getElem? hj, hu⟩
  have inT : ∀ c, c ∈ blks (β2 t) → blk v = some c := fun c hc => by rw [b2t] at hc; exact v2.blks_one hc
  have inT' : ∀ c, c ∈ blks (β2 t) → c ∈ blks (β e) := fun c hc => by
   rw [q1, blks_tuple]; exact List.mem_filterMap.2 ⟨v, List.mem_of_getElem? v1, inT c hc⟩
  have et : ∀ c, c ∈ blks (β2 e2) → c ∈ blks (β2 t) → False := fun c hc hc' => by
   obtain ⟨j, u, hj, hju, hub⟩ := inE c hc
   exact hb.ne hj hju v1 hub (inT c hc')
  rcases cls y hy hs1 with rfl | rfl | rfl <;> rcases cls z hz hs2 with rfl | rfl | rfl
  ·exact hyz rfl
  ·rw [b2d] at hc; exact hde0 c hc (inE' c hc')
  ·rw [b2d] at hc; exact hde0 c hc (inT' c hc')
  ·rw [b2d] at hc'; exact hde0 c hc' (inE' c hc)
  ·exact hyz rfl
  ·exact et c hc hc'
  ·rw [b2d] at hc'; exact hde0 c hc' (inT' c hc)
  ·exact et c hc' hc
  ·exact hyz rfl
/-- a row put back: what is in t is in its place -/
theorem RelW.back (h : RelW G cx I β σ w) {d e e2 t i : Nat} {od : AObj} {els : List Rw} {T sz : Nat} {xs : List (List AV)} {fz : Bool} (hd : σ.get d = some od) (ho : od.outE = some (e, some (some i, t))) (he : σ.get e = some (.bun els))
  (ht : σ.get t = some (.slice T sz xs 0 fz)) (he2 : σ.get e2 = none) (hei : e2 ∉ G.ids) (hcl : σ.clean [e2].contains = true) :
  ∃ β2, (∀ y, y ≠ e2 → β2 y = β y) ∧ RelW G cx I β2 ((e2, .bun (els.set i (.sl T sz xs))) :: (d, od.reb e2 none) :: σ.minus [d, e, t]) w := by
 have hne : ∀ y, (σ.get y).isSome → y ≠ e2 := fun y hy e => by subst e; rw [he2] at hy; cases hy
 have hdne := hne d (by rw [hd]; rfl)
 have hene := hne e (by rw [he]; rfl)
 have htne := hne t (by rw [ht]; rfl)
 have hde : d ≠ e := fun e' => by subst e'; rw [hd] at he; cases he; cases ho
 have hdt : d ≠ t := fun e' => by subst e'; rw [hd] at ht; cases ht; cases ho
 have het : e ≠ t := fun e' => by subst e'; rw [he] at ht; cases ht
 -- what the new bundle is
 have main : ∃ u : Value, (od.outE = some (e, some (some i, t)) → ∀ β2 : Nat → Value, (∀ y, y ≠ e2 → β2 y = β y) → β2 e2 = u → ObjRep cx I β2 w d (od.reb e2 none) ∧ ObjRep cx I β2 w e2 (.bun (els.set i (.sl T sz xs)))) ∧ ∀ c ∈ blks u, c ∈ blks (β e) ∨ c ∈ blks (β t) := by
  rcases (h.objs d od hd).outer ho with q | ⟨hs, as, q1, ⟨q2, q2', q2''⟩, bd, q3⟩
  ·refine ⟨.nilFunc, fun _ β2 h1 h2 => ⟨?_, by simp only [ObjRep]; exact .inl h2⟩, by simp [blks_nilFunc]⟩
   have : β2 d = .nilFunc := by rw [h1 d hdne]; exact q
   cases od <;> simp only [AObj.outE, reduceCtorEq] at ho <;> simp only [AObj.reb, ObjRep] <;> exact .inl this
  ·have hbu := h.objs e _ he
   simp only [ObjRep, q1, Value.tuple.injEq, reduceCtorEq, false_or] at hbu
   obtain ⟨hs', rfl, hb⟩ := hbu
   have hrow := RowV.of_slice (h.objs t _ ht) q2'
   refine ⟨.tuple (hs.setIfInBounds i (β t)), fun _ β2 h1 h2 => ⟨?_, ?_⟩, fun c hc => ?_⟩
   ·refine (h.objs d od hd).rebase ho (h1 d hdne) q1 h2 (by simp) fun as' has => ?_
    obtain ⟨_, _, has⟩ := has
    show as' = _
    rw [has]; simp
   ·simp only [ObjRep]
    refine .inr ⟨_, h2, ?_⟩
    rw [show (hs.setIfInBounds i (β t)).toList = hs.toList.set i (β t) by simp]
    refine hb.set hrow fun j u b hj hju hbt hbu => ?_
    refine h.sepB e t (by rw [he]; rfl) (by rw [ht]; rfl) het b ?_ (mem_blks hbt)
    rw [q1, blks_tuple]; exact List.mem_filterMap.2 ⟨u, List.mem_of_getElem? hju, hbu⟩
   ·rw [blks_tuple, show (hs.setIfInBounds i (β t)).toList = hs.toList.set i (β t) by simp] at hc
    rcases mem_set_blk hc with hc | hc
    ·exact .inl (by rw [q1, blks_tuple]; exact hc)
    ·exact .inr (mem_blks hc)
 obtain ⟨u, m1, m2⟩ := main
 have hb2 : ∀ y, y ≠ e2 → (fun y => if y = e2 then u else β y) y = β y := fun y hy => if_neg hy
 have hb2e : (fun y => if y = e2 then u else β y) e2 = u := if_pos rfl
 refine ⟨fun y => if y = e2 then u else β y, hb2, ?_⟩
 generalize (fun y => if y = e2 then u else β y) = β2 at hb2 hb2e
 obtain ⟨o1, o2⟩ := m1 ho β2 hb2 hb2e
 have cls : ∀ y, y ∈ [d, e, e2, t] → (Sto.get ((e2, .bun (els.set i (.sl T sz xs))) :: (d, od.reb e2 none) :: σ.minus [d, e, t]) y).isSome → y = d ∨ y = e2 := fun y hy hs2 => by
  rw [get2] at hs2
  simp only [List.mem_cons, List.not_mem_nil, or_false] at hy
  rcases hy with rfl | rfl | rfl | rfl
  ·exact .inl rfl
  ·rw [if_neg (Ne.symm hene), if_neg hde, if_pos (by simp)] at hs2; cases hs2
  ·exact .inr rfl
  ·rw [if_neg (Ne.symm htne), if_neg hdt, if_pos (by simp)] at hs2; cases hs2
 have dsep : ∀ c, c ∈ blks (β2 d) → c ∉ blks (β2 e2) := fun c hc hc' => by
  rw [hb2 d hdne] at hc
  rw [hb2e] at hc'
  rcases m2 c hc' with q | q
  ·exact h.sepB d e (by rw [hd]; rfl) (by rw [he]; rfl) hde c hc q
  ·exact h.sepB d t (by rw [hd]; rfl) (by rw [ht]; rfl) hdt c hc q
 refine h.redo0 (M := [d, e, e2, t]) (news := [e2]) (β2 := β2) (fun y hy => ?_) (fun y hy => hb2 y (by simpa using hy)) (fun y hy => by simp only [List.mem_singleton] at hy; subst hy; exact ⟨by simp, hei⟩) (fun y o _ hyo => (Sto.clean_get hcl y o hyo).2) (fun y hy o hyo => ?_) (fun y hy hs2 c hc => ?_) (fun y hy z hz hyz hs1 hs2 c hc hc' => ?_)
 ·simp only [List.mem_cons, List.not_mem_nil, or_false, not_or] at hy
  rw [get2, if_neg (Ne.symm hy.2.2.1), if_neg (Ne.symm hy.1), if_neg (by simp [hy.1, hy.2.1, hy.2.2.2])]
 ·have := cls y hy (by rw [hyo]; rfl)
  rw [get2] at hyo
  rcases this with rfl | rfl
  ·rw [if_neg (Ne.symm hdne), if_pos rfl] at hyo; cases hyo; exact o1
  ·rw [if_pos rfl] at hyo; cases hyo; exact o2
 ·rcases cls y hy hs2 with rfl | rfl
  ·rw [hb2 y hdne] at hc; exact ⟨y, by simp, by rw [hd]; rfl, hc⟩
  ·rw [hb2e] at hc
   rcases m2 c hc with q | q
   ·exact ⟨e, by simp, by rw [he]; rfl, q⟩
   ·exact ⟨t, by simp, by rw [ht]; rfl, q⟩
 ·rcases cls y hy hs1 with rfl | rfl <;> rcases cls z hz hs2 with rfl | rfl
  ·exact hyz rfl
  ·exact dsep c hc hc'
  ·exact dsep c hc' hc
  ·exact hyz rfl
end take
end Go.Proofs.Ytflifgcoleknlaa

/- Maps of own rows: a row looked up, a row stored. No condition but those that stand in each. -/
namespace Go.Proofs.Ytflifgcoleknlaa
set_option linter.all false
open Go
def encK {α : Type} (k : IntKind) (l : List (Int × α)) : List AV := l.map fun p => .int k p.1
def encB {α : Type} (T : TypeId) (sz : Nat) (enc : α → List AV) (l : List (Int × List α)) : List Rw := l.map fun p => .sl T sz (p.2.map enc)
def posI {α : Type} : List (Int × α) → Int → Nat
 | [], _ => 0
 | p :: r, n => if p.1 = n then 0 else posI r n + 1
/-- the row of a number is taken out -/
def holI {α : Type} : List (Int × List α) → Int → List (Int × List α)
 | [], _ => []
 | p :: r, n => if p.1 = n then (p.1, []) :: r else p :: holI r n
def holeI {α : Type} (l : List (Int × α)) (n : Int) (t : Nat) : Option (Option Nat × Nat) := some (bif (getI l n).isSome then some (posI l n) else none, t)
theorem getI_cons {α : Type} (p : Int × α) (r : List (Int × α)) (n : Int) : getI (p :: r) n = if p.1 = n then some p.2 else getI r n := by
 by_cases h : p.1 = n <;> simp [getI, List.find?, h]
theorem holI_none {α : Type} : ∀ {l : List (Int × List α)} {n : Int}, getI l n = none → holI l n = l
 | [], _, _ => rfl
 | p :: r, n, h => by
  rw [getI_cons] at h
  split at h
  ·cases h
  ·rename_i hp; simp only [holI, if_neg hp, holI_none h]
theorem holI_set {α : Type} : ∀ (l : List (Int × List α)) (n : Int) (v : List α), setI (holI l n) n v = setI l n v
 | [], _, _ => rfl
 | p :: r, n, v => by
  by_cases hp : p.1 = n
  ·simp [holI, setI, hp]
  ·simp [holI, setI, hp, holI_set r n v]
theorem holI_keys {α : Type} (k : IntKind) : ∀ (l : List (Int × List α)) (n : Int), encK k (holI l n) = encK k l
 | [], _ => rfl
 | p :: r, n => by
  by_cases hp : p.1 = n
  ·simp [holI, hp, encK]
  ·have := holI_keys k r n
   simp only [encK] at this
   simp [holI, hp, encK, this]
theorem holI_some {α : Type} : ∀ (l : List (Int × List α)) (n : Int), (getI (holI l n) n).isSome = (getI l n).isSome
 | [], _ => rfl
 | p :: r, n => by
  by_cases hp : p.1 = n
  ·simp [holI, hp, getI_cons]
  ·simp [holI, hp, getI_cons, holI_some r n]
theorem holI_pos {α : Type} : ∀ (l : List (Int × List α)) (n : Int), posI (holI l n) n = posI l n
 | [], _ => rfl
 | p :: r, n => by
  by_cases hp : p.1 = n
  ·simp [holI, hp, posI]
  ·simp [holI, hp, posI, holI_pos r n]
theorem holI_hole {α : Type} (l : List (Int × List α)) (n : Int) (t : Nat) : holeI (holI l n) n t = holeI l n t := by simp [holeI, holI_some, holI_pos]
theorem posI_get {α : Type} : ∀ {l : List (Int × α)} {n : Int} {a : α}, getI l n = some a → ∃ m, m = n ∧ l[posI l n]? = some (m, a)
 | [], _, _, h => by simp [getI] at h
 | p :: r, n, a, h => by
  rw [getI_cons] at h
  split at h
  ·rename_i hp; cases h; exact ⟨p.1, hp, by simp only [posI, if_pos hp]; rfl⟩
  ·rename_i hp
   obtain ⟨m, h1, h2⟩ := posI_get h
   exact ⟨m, h1, by simp [posI, hp, h2]⟩
theorem setI_pos {α : Type} : ∀ {l : List (Int × α)} {n : Int} {a : α} (v : α), getI l n = some a → setI l n v = l.set (posI l n) (n, v)
 | [], _, _, _, h => by simp [getI] at h
 | p :: r, n, a, v, h => by
  rw [getI_cons] at h
  split at h
  ·rename_i hp; simp [setI, posI, hp]
  ·rename_i hp; simp [setI, posI, hp, setI_pos v h]
theorem setI_none {α : Type} : ∀ {l : List (Int × α)} {n : Int} (v : α), getI l n = none → setI l n v = l ++ [(n, v)]
 | [], _, _, _ => rfl
 | p :: r, n, v, h => by
  rw [getI_cons] at h
  split at h
  ·cases h
  ·rename_i hp; simp [setI, hp, setI_none v h]
theorem holI_posI {α : Type} : ∀ {l : List (Int × List α)} {n : Int} {a : List α}, getI l n = some a → holI l n = l.set (posI l n) (n, [])
 | [], _, _, h => by simp [getI] at h
 | p :: r, n, a, h => by
  rw [getI_cons] at h
  split at h
  ·rename_i hp; simp [holI, posI, hp]
  ·rename_i hp; simp [holI, posI, hp, holI_posI h]
theorem encB_set {α : Type} {T : TypeId} {sz : Nat} {enc : α → List AV} (l : List (Int × List α)) (i : Nat) (n : Int) (v : List α) : encB T sz enc (l.set i (n, v)) = (encB T sz enc l).set i (.sl T sz (v.map enc)) := by simp [encB, List.map_set]
theorem encK_set {α : Type} {k : IntKind} {l : List (Int × α)} {n : Int} {a : α} (v : α) (h : getI l n = some a) : encK k (l.set (posI l n) (n, v)) = encK k l := by
 obtain ⟨m, rfl, h2⟩ := posI_get h
 simp only [encK, List.map_set]
 apply List.ext_getElem?
 intro j
 rw [List.getElem?_set]
 split
 ·rename_i hj
  subst hj
  rw [List.getElem?_map, h2]
  split
  ·rfl
  ·rename_i hlt
   exact absurd (by simpa using (List.getElem?_eq_some_iff.1 h2).1) hlt
 ·rfl
/-! ### keys found -/
theorem findKV_some {I : Imm} {α : Type} {k : IntKind} (n : Int) : ∀ (l : List (Int × α)) (vs : List Value) (es : List MapEntry) (i : Nat) (a : α), MapKV I (encK k l) vs es → getI l n = some a →
  ∃ v e, vs[posI l n]? = some v ∧ es[posI l n]? = some e ∧ e.key = .int k n ∧ Instr.findNow (.int k) (.int k n) es i = some (some (i + posI l n, v)) ∧
   ∀ (u : Value) (kk : MapEntry → MapEntry), (∀ e, (kk e).key = .int k n ∧ (kk e).val = u) → MapKV I (encK k l) (vs.set (posI l n) u) (es.modify (posI l n) kk)
 | [], vs, es, i, a, h, hg => by simp [getI] at hg
 | (m, b) :: r, vs, es, i, a, h, hg => by
  simp only [encK, List.map_cons, MapKV] at h
  obtain ⟨v, us, e, fs, rfl, rfl, h3, h4, h5⟩ := h
  simp only [RepC] at h3
  rw [getI_cons] at hg
  by_cases hm : m = n
  ·subst hm
   simp only [posI, if_true]
   refine ⟨v, e, rfl, rfl, h3, by simp [Instr.findNow, Instr.sameNow, h3, h4], fun u kk hk => ?_⟩
   simp only [encK, List.map_cons, List.set_cons_zero, List.modify_zero_cons, MapKV]
   exact ⟨u, us, kk e, fs, rfl, rfl, by simp only [RepC]; exact (hk e).1, (hk e).2, h5⟩
  ·rw [if_neg hm] at hg
   obtain ⟨v', e', q1, q2, q3, q4, q5⟩ := findKV_some n r us fs (i + 1) a h5 hg
   simp only [posI, if_neg hm]
   refine ⟨v', e', by simpa using q1, by simpa using q2, q3, ?_, fun u kk hk => ?_⟩
   ·simp only [Instr.findNow, Instr.sameNow, h3, if_pos]
    have : (n == m) = false := by simpa using fun e => hm e.symm
    rw [this]
    simp only
    rw [q4]
    simp [Nat.add_assoc, Nat.add_comm 1]
   ·simp only [encK, List.map_cons, List.set_cons_succ, List.modify_succ_cons, MapKV]
    exact ⟨v, _, e, _, rfl, rfl, by simp only [RepC]; exact h3, h4, q5 u kk hk⟩
theorem findKV_none {I : Imm} {α : Type} {k : IntKind} (n : Int) : ∀ (l : List (Int × α)) (vs : List Value) (es : List MapEntry) (i : Nat), MapKV I (encK k l) vs es → getI l n = none →
  Instr.findNow (.int k) (.int k n) es i = some none ∧ ∀ (b : α) (e : MapEntry), e.key = .int k n → MapKV I (encK k (l ++ [(n, b)])) (vs ++ [e.val]) (es ++ [e])
 | [], vs, es, i, h, hg => by
  simp only [encK, List.map_nil, MapKV] at h
  obtain ⟨rfl, rfl⟩ := h
  refine ⟨rfl, fun b e hk => ?_⟩
  simp only [List.nil_append, encK, List.map_cons, List.map_nil, MapKV]
  exact ⟨e.val, [], e, [], rfl, rfl, by simp only [RepC]; exact hk, rfl, rfl, rfl⟩
 | (m, c) :: r, vs, es, i, h, hg => by
  simp only [encK, List.map_cons, MapKV] at h
  obtain ⟨v, us, e, fs, rfl, rfl, h3, h4, h5⟩ := h
  simp only [RepC] at h3
  rw [getI_cons] at hg
  have hm : m ≠ n := fun hm => by rw [if_pos hm] at hg; cases hg
  rw [if_neg hm] at hg
  obtain ⟨q1, q2⟩ := findKV_none n r us fs (i + 1) h5 hg
  refine ⟨?_, fun b e' hk => ?_⟩
  ·simp only [Instr.findNow, Instr.sameNow, h3, if_pos]
   have : (n == m) = false := by simpa using fun e => hm e.symm
   rw [this]
   exact q1
  ·have := q2 b e' hk
   simp only [encK] at this
   simp only [encK, List.cons_append, List.map_cons, MapKV]
   exact ⟨v, _, e, _, rfl, rfl, by simp only [RepC]; exact h3, h4, this⟩
theorem MapKV.length {I : Imm} : ∀ {ks : List AV} {vs : List Value} {es : List MapEntry}, MapKV I ks vs es → vs.length = ks.length ∧ es.length = ks.length
 | [], _, _, h => by obtain ⟨rfl, rfl⟩ := h; exact ⟨rfl, rfl⟩
 | k :: ks, _, _, h => by
  obtain ⟨v, us, e, fs, rfl, rfl, _, _, h5⟩ := h
  have := h5.length
  simp [this.1, this.2]
section
variable {G : Gl} {σ : Sto} {o : Oper} {ev : Operand → AV}
/-- a row looked up, and taken -/
theorem D.takeM {α : Type} {fx : Option (Array MapEntry × Nat)} {T K E d e e2 t T' sz : Nat} {k : IntKind} {x y : Operand} {n : Int} (l : List (Int × List α)) (enc : α → List AV) (h : o.op = .lookup T x y false) (hx : ev x = .mapv d) (hy : ev y = .int k n)
  (hd : σ.get d = some (.outM K E e (encK k l) none fx)) (he : σ.get e = some (.bun (encB T' sz enc l))) (hT : MapS G.P T K E k) (hz : ∀ w, (zeroValue E).run G.P w = .ok (.slice none 0 0) w)
  (ht : σ.get t = none) (he2 : σ.get e2 = none) (hte : t ≠ e2) (hti : G.ids.contains t = false) (hei : G.ids.contains e2 = false) (hcl : σ.clean [t, e2].contains = true) :
  Does G o ev σ [d, e, e2, t] [t, e2] (fun r σ' => r = .own t ∧ σ' = (t, .slice T' sz (((getI l n).getD []).map enc) 0 false) :: (e2, .bun (encB T' sz enc (holI l n))) :: (d, .outM K E e2 (encK k l) (holeI l n t) fx) :: σ.minus [d, e]) := by
 intro cx I β w ρ hw hop
 have h1 := hop x (by simp [h, Op.operands]); rw [hx] at h1
 have h2 := hop y (by simp [h, Op.operands]); rw [hy] at h2; have h2 := rep_int h2
 simp only [Rep] at h1
 obtain ⟨h1, h1m⟩ := h1
 have hdn : β d ≠ .nilFunc := fun e => by rw [h1, e] at h1m; simp [isMp] at h1m
 have hod := hw.objs d _ hd
 simp only [ObjRep, hdn, false_or] at hod
 obtain ⟨r, es, clock, hs, as, q1, q2, q3, q4, q5, q6, q7, q8⟩ := hod
 rw [show as = hs.toList from q4] at q5
 have e1 : ∀ w, (underlying T).run G.P w = .ok (.map K E) w := fun w => by simp [underlying, program, Sem.run, hT.und]
 have e2' : ∀ w, (underlying K).run G.P w = .ok (.int k) w := fun w => by simp [underlying, program, Sem.run, hT.key]
 have e3 := run_getObjM (P := G.P) q2
 have e4 := run_checkKeyI (P := G.P) hT.key (es.isEmpty) n w
 have hti' : t ∉ G.ids := by simpa using hti
 have hei' : e2 ∉ G.ids := by simpa using hei
 have hmin : ∀ x, x ∉ [d, e, e2, t] → ∀ (oa ob oc : AObj), Sto.get ((t, oa) :: (e2, ob) :: (d, oc) :: σ.minus [d, e]) x = σ.get x := fun x hx oa ob oc => by
  simp only [List.mem_cons, List.not_mem_nil, or_false, not_or] at hx
  rw [get3, if_neg (Ne.symm hx.2.2.2), if_neg (Ne.symm hx.2.2.1), if_neg (Ne.symm hx.1), if_neg (by simp [hx.1, hx.2.1])]
 cases hg : getI l n with
 | some a =>
  obtain ⟨v, e', p1, p2, p3, p4, _⟩ := findKV_some n l hs.toList es.toList 0 a q5 hg
  obtain ⟨m, hm, hpos⟩ := posI_get hg
  have hrow : (encB T' sz enc l)[posI l n]? = some (.sl T' sz (a.map enc)) := by simp [encB, hpos]
  obtain ⟨hs2, g1, v2, g2, g3, g4⟩ := hw.take hd rfl he hrow hdn ht he2 hte hti' hei' hcl
  rw [q3] at g1; cases g1
  have hv : v2 = v := by
   have : hs.toList[posI l n]? = some v2 := by simpa using g2
   rw [this] at p1; exact Option.some.inj p1
  subst hv
  have e5 : (Instr.findKey K (.int k n) es.toList).run G.P w = .ok (some (0 + posI l n, v2)) w := by simp [Instr.findKey, e2', p4]
  have hrun : (execOp ρ o).run G.P w = .ok (.value v2) w := by simp [execOp, h, Instr.lookup, h1, q1, h2, e1, e3, e4, e5]
  rw [hrun]
  refine ⟨.own t, _, I, fun y => if y = t then v2 else if y = e2 then .tuple (hs.setIfInBounds (posI l n) (.slice none 0 0)) else β y, ⟨rfl, rfl⟩, ?_, ?_, ImmLe.refl I, fun y hy => ?_, fun y hy => hmin y hy _ _ _⟩
  ·simp only [Rep, if_true]
   refine ⟨trivial, ?_⟩
   rcases g3 with ⟨q, _⟩ | ⟨b, cap, arr, q, _⟩ <;> rw [q] <;> rfl
  ·have hh : holeI l n t = some (some (posI l n), t) := by simp [holeI, hg]
   rw [hh, holI_posI hg, encB_set]
   exact g4
  ·simp only [List.mem_cons, List.not_mem_nil, or_false, not_or] at hy
   simp only [if_neg hy.1, if_neg hy.2]
 | none =>
  obtain ⟨p1, _⟩ := findKV_none n l hs.toList es.toList 0 q5 hg
  have e5 : (Instr.findKey K (.int k n) es.toList).run G.P w = .ok none w := by simp [Instr.findKey, e2', p1]
  have hrun : (execOp ρ o).run G.P w = .ok (.value (.slice none 0 0)) w := by simp [execOp, h, Instr.lookup, h1, q1, h2, e1, e3, e4, e5, hz w]
  rw [hrun]
  let β2 : Nat → Value := fun y => if y = t then .slice none 0 0 else if y = e2 then β e else β y
  have b2t : β2 t = .slice none 0 0 := by show (if _ then _ else _) = _; rw [if_pos rfl]
  have b2e : β2 e2 = β e := by show (if _ then _ else _) = _; rw [if_neg (Ne.symm hte), if_pos rfl]
  have b2 : ∀ y, y ∉ [t, e2] → β2 y = β y := fun y hy => by
   simp only [List.mem_cons, List.not_mem_nil, or_false, not_or] at hy
   show (if _ then _ else _) = _; rw [if_neg hy.1, if_neg hy.2]
  have hne : ∀ y, (σ.get y).isSome → y ≠ t ∧ y ≠ e2 := fun y hy => ⟨fun e => (by subst e; rw [ht] at hy; cases hy), fun e => (by subst e; rw [he2] at hy; cases hy)⟩
  have hdne := hne d (by rw [hd]; rfl)
  have hene := hne e (by rw [he]; rfl)
  have hde : d ≠ e := fun e' => by subst e'; rw [hd] at he; cases he
  have b2d : β2 d = β d := b2 d (by simp [hdne.1, hdne.2])
  have hh : holeI l n t = some (none, t) := by simp [holeI, hg]
  refine ⟨.own t, _, I, β2, ⟨rfl, rfl⟩, by simp only [Rep, b2t, isSl, and_self], ?_, ImmLe.refl I, b2, fun y hy => hmin y hy _ _ _⟩
  rw [hh, holI_none hg]
  simp only [Option.getD_none, List.map_nil]
  have cls : ∀ y, y ∈ [d, e, e2, t] → (Sto.get ((t, AObj.slice T' sz [] 0 false) :: (e2, .bun (encB T' sz enc l)) :: (d, .outM K E e2 (encK k l) (some (none, t)) fx) :: σ.minus [d, e]) y).isSome → y = d ∨ y = e2 ∨ y = t := fun y hy hs2 => by
   rw [get3] at hs2
   simp only [List.mem_cons, List.not_mem_nil, or_false] at hy
   rcases hy with rfl | rfl | rfl | rfl
   ·exact .inl rfl
   ·rw [if_neg (Ne.symm hene.1), if_neg (Ne.symm hene.2), if_neg hde, if_pos (by simp)] at hs2; cases hs2
   ·exact .inr (.inl rfl)
   ·exact .inr (.inr rfl)
  have hde0 : ∀ c, c ∈ blks (β d) → c ∉ blks (β e) := hw.sepB d e (by rw [hd]; rfl) (by rw [he]; rfl) hde
  refine hw.redo0 (M := [d, e, e2, t]) (news := [t, e2]) (β2 := β2) (fun y hy => hmin y hy _ _ _) b2 (fun y hy => ?_) (fun y o _ hyo => (Sto.clean_get hcl y o hyo).2) (fun y hy o hyo => ?_) (fun y hy hs2 c hc => ?_) (fun y hy z hz hyz hs1 hs2 c hc hc' => ?_)
  ·simp only [List.mem_cons, List.not_mem_nil, or_false] at hy
   rcases hy with rfl | rfl
   ·exact ⟨by simp, hti'⟩
   ·exact ⟨by simp, hei'⟩
  ·have := cls y hy (by rw [hyo]; rfl)
   rw [get3] at hyo
   rcases this with rfl | rfl | rfl
   ·rw [if_neg (Ne.symm hdne.1), if_neg (Ne.symm hdne.2), if_pos rfl] at hyo; cases hyo
    simp only [ObjRep, b2d, b2e]
    exact .inr ⟨r, es, clock, hs, hs.toList, q1, q2, q3, rfl, q5, q6, q7, q8⟩
   ·rw [if_neg hte, if_pos rfl] at hyo; cases hyo
    have := hw.objs e _ he
    simp only [ObjRep, b2e] at this ⊢; exact this
   ·rw [if_pos rfl] at hyo; cases hyo
    simp only [ObjRep, b2t]; exact .inr (.inl ⟨trivial, trivial, trivial⟩)
  ·rcases cls y hy hs2 with rfl | rfl | rfl
   ·rw [b2d] at hc; exact ⟨y, by simp, by rw [hd]; rfl, hc⟩
   ·rw [b2e] at hc; exact ⟨e, by simp, by rw [he]; rfl, hc⟩
   ·rw [b2t] at hc; cases hc
  ·rcases cls y hy hs1 with rfl | rfl | rfl <;> rcases cls z hz hs2 with rfl | rfl | rfl
   ·exact hyz rfl
   ·rw [b2d] at hc; rw [b2e] at hc'; exact hde0 c hc hc'
   ·rw [b2t] at hc'; cases hc'
   ·rw [b2d] at hc'; rw [b2e] at hc; exact hde0 c hc' hc
   ·exact hyz rfl
   ·rw [b2t] at hc'; cases hc'
   ·rw [b2t] at hc; cases hc
   ·rw [b2t] at hc; cases hc
   ·exact hyz rfl
end
end Go.Proofs.Ytflifgcoleknlaa

/- Maps of own rows: a row stored; from an own map to a map of rows; a map as it lies. No condition but those that stand in each. -/
namespace Go.Proofs.Ytflifgcoleknlaa
set_option linter.all false
open Go
section put
variable {G : Gl} {cx : Cx} {I : Imm} {β : Nat → Value} {σ : Sto} {w : World}
/-- the map is written: its rows are those of a new bundle, whose blocks are the old one's and those of what M0 owned -/
theorem RelW.remap (h : RelW G cx I β σ w) {d e e2 r K E clock' : Nat} {keys keys' : List AV} {hole : Option (Option Nat × Nat)} {fx : Option (Array MapEntry × Nat)} {els els' : List Rw} {M0 : List Nat} {hs' : Array Value} {es' : Array MapEntry} {w' : World}
  (hd : σ.get d = some (.outM K E e keys hole fx)) (he : σ.get e = some (.bun els)) (hr : β d = .map (some r)) (he2 : σ.get e2 = none) (hei : e2 ∉ G.ids) (hcl : σ.clean [e2].contains = true) (hdM : d ∉ M0)
  (hk : Kept w w' r) (hw' : w'.heap[r]? = some (.map es' clock')) (hb : BunV cx I w els' hs'.toList) (hkv : MapKV I keys' hs'.toList es'.toList) (hB : Born es' clock')
  (hsub : ∀ c ∈ hs'.toList.filterMap blk, c ∈ blks (β e) ∨ ∃ y ∈ M0, (σ.get y).isSome ∧ c ∈ blks (β y)) :
  RelW G cx I (fun y => if y = e2 then .tuple hs' else β y) ((e2, .bun els') :: (d, .outM K E e2 keys' none none) :: σ.minus (d :: e :: M0)) w' := by
 have hod := h.objs d _ hd
 simp only [ObjRep, hr, reduceCtorEq, false_or] at hod
 obtain ⟨r', es, clock, hs, as, q1, q2, q3, q4, q5, q6, q7, q8, _⟩ := hod
 cases q1
 have hds : (σ.get d).isSome := by rw [hd]; rfl
 have hes : (σ.get e).isSome := by rw [he]; rfl
 have hne : ∀ y, (σ.get y).isSome → y ≠ e2 := fun y hy e => by subst e; rw [he2] at hy; cases hy
 have hde : d ≠ e := fun e' => by subst e'; rw [hd] at he; cases he
 have hrd : r ∈ blks (β d) := mem_blks (by rw [hr]; rfl)
 have hrn : ∀ c ∈ hs'.toList.filterMap blk, c ≠ r := fun c hc e => by
  subst e
  rcases hsub c hc with q | ⟨y, y1, y2, y3⟩
  ·exact h.sepB d e hds hes hde c hrd q
  ·exact h.sepB d y hds y2 (fun e => hdM (e ▸ y1)) c hrd y3
 have hb2 : ∀ y, y ≠ e2 → (fun y => if y = e2 then (Value.tuple hs') else β y) y = β y := fun y hy => if_neg hy
 have hb2e : (fun y => if y = e2 then (Value.tuple hs') else β y) e2 = .tuple hs' := if_pos rfl
 generalize (fun y => if y = e2 then (Value.tuple hs') else β y) = β2 at hb2 hb2e
 have b2d : β2 d = β d := hb2 d (hne d hds)
 have cls : ∀ y, y ∈ d :: e :: e2 :: M0 → ∀ o, (Sto.get ((e2, .bun els') :: (d, .outM K E e2 keys' none none) :: σ.minus (d :: e :: M0)) y) = some o → (y = d ∧ o = .outM K E e2 keys' none none) ∨ (y = e2 ∧ o = .bun els') := fun y hy o ho => by
  rw [get2] at ho
  split at ho
  ·rename_i e'; exact .inr ⟨e'.symm, (Option.some.inj ho).symm⟩
  ·rename_i n2
   split at ho
   ·rename_i e'; exact .inl ⟨e'.symm, (Option.some.inj ho).symm⟩
   ·split at ho
    ·cases ho
    ·rename_i n1 n3
     simp only [List.mem_cons, not_or] at hy n3
     rcases hy with rfl | rfl | rfl | hy
     ·exact absurd rfl n1
     ·exact absurd rfl n3.2.1
     ·exact absurd rfl n2
     ·exact absurd hy n3.2.2
 have cls' : ∀ y, y ∈ d :: e :: e2 :: M0 → (Sto.get ((e2, .bun els') :: (d, .outM K E e2 keys' none none) :: σ.minus (d :: e :: M0)) y).isSome → y = d ∨ y = e2 := fun y hy hs => by
  obtain ⟨o, ho⟩ := Option.isSome_iff_exists.1 hs
  rcases cls y hy o ho with q | q
  ·exact .inl q.1
  ·exact .inr q.1
 have inE : ∀ c, c ∈ blks (β2 e2) → c ∈ blks (β e) ∨ ∃ y ∈ M0, (σ.get y).isSome ∧ c ∈ blks (β y) := fun c hc => hsub c (by rw [hb2e] at hc; exact hc)
 have sep : ∀ c, c ∈ blks (β2 d) → c ∉ blks (β2 e2) := fun c hc hc' => by
  rw [b2d, hr] at hc
  have : c = r := by simpa [blks, blk] using hc
  exact hrn c (by rw [hb2e] at hc'; exact hc') this
 refine h.redo (M := d :: e :: e2 :: M0) (news := [e2]) (b := r) (β2 := β2) hk q6 (fun y hy hs e' => ?_) q7 (fun y hy => ?_) (fun y hy => hb2 y (by simpa using hy)) (fun y hy => ?_) (fun y o _ hyo => (Sto.clean_get hcl y o hyo).2) (fun y hy o hyo => ?_) (fun y hy hs2 c hc => ?_) (fun y hy z hz hyz hs1 hs2 c hc hc' => ?_)
 ·exact h.sepB d y hds hs (fun e => hy (by simp [e])) r hrd e'
 ·simp only [List.mem_cons, not_or] at hy
  rw [get2, if_neg (Ne.symm hy.2.2.1), if_neg (Ne.symm hy.1), if_neg (by simp [hy.1, hy.2.1, hy.2.2.2])]
 ·simp only [List.mem_singleton] at hy
  subst hy
  exact ⟨by simp, hei⟩
 ·rcases cls y hy o hyo with ⟨rfl, rfl⟩ | ⟨rfl, rfl⟩
  ·simp only [ObjRep, b2d, hr, hb2e]
   exact .inr ⟨r, es', clock', hs', hs'.toList, rfl, hw', rfl, rfl, hkv, q6, q7, hB, by simp⟩
  ·simp only [ObjRep]
   exact .inr ⟨hs', hb2e, hb.go (ImmLe.refl I) fun c hc => ⟨fun hlt => hk.block c (hrn c hc) hlt, fun _ => rfl, id⟩⟩
 ·rcases cls' y hy hs2 with rfl | rfl
  ·rw [b2d] at hc; exact ⟨y, by simp, hds, hc⟩
  ·rcases inE c hc with q | ⟨y, y1, y2, y3⟩
   ·exact ⟨e, by simp, hes, q⟩
   ·exact ⟨y, by simp [y1], y2, y3⟩
 ·rcases cls' y hy hs1 with rfl | rfl <;> rcases cls' z hz hs2 with rfl | rfl
  ·exact hyz rfl
  ·exact sep c hc hc'
  ·exact sep c hc' hc
  ·exact hyz rfl
end put
section
variable {G : Gl} {σ : Sto} {o : Oper} {ev : Operand → AV}
/-- a row stored -/
theorem D.putM {α : Type} {T K E d e e2 T' sz : Nat} {k : IntKind} {x y z : Operand} {n : Int} {fz : Bool} {fx : Option (Array MapEntry × Nat)} {hole : Option (Option Nat × Nat)} (M0 : List Nat) (l : List (Int × List α)) (enc : α → List AV) (row : List α) (h : o.op = .mapUpdate T x y z ∨ o.op = .insert T x y z) (hx : ev x = .mapv d) (hy : ev y = .int k n)
  (hz : (ev z = .nils ∧ row = [] ∧ M0 = []) ∨ ∃ j, ev z = .own j ∧ σ.get j = some (.slice T' sz (row.map enc) 0 fz) ∧ M0 = [j])
  (hd : σ.get d = some (.outM K E e (encK k l) hole fx)) (hh : hole = none ∨ ∃ t, hole = holeI l n t) (he : σ.get e = some (.bun (encB T' sz enc l))) (hT : MapS G.P T K E k)
  (he2 : σ.get e2 = none) (hei : G.ids.contains e2 = false) (hcl : σ.clean [e2].contains = true) :
  Does G o ev σ (d :: e :: e2 :: M0) [e2] (fun r σ' => r = .undef ∧ σ' = (e2, .bun (encB T' sz enc (setI l n row))) :: (d, .outM K E e2 (encK k (setI l n row)) none none) :: σ.minus (d :: e :: M0)) := by
 intro cx I β w ρ hw hop
 have hops : x ∈ o.op.operands ∧ y ∈ o.op.operands ∧ z ∈ o.op.operands := by rcases h with h | h <;> simp [h, Op.operands]
 have h1 := hop x hops.1; rw [hx] at h1
 have h2 := hop y hops.2.1; rw [hy] at h2; have h2 := rep_int h2
 have h3 := hop z hops.2.2
 simp only [Rep] at h1
 obtain ⟨h1, h1m⟩ := h1
 have hdn : β d ≠ .nilFunc := fun e => by rw [h1, e] at h1m; simp [isMp] at h1m
 have hod := hw.objs d _ hd
 simp only [ObjRep, hdn, false_or] at hod
 obtain ⟨r, es, clock, hs, as, q1, q2, q3, q4, q5, q6, q7, q8, _⟩ := hod
 have hbu := hw.objs e _ he
 simp only [ObjRep, q3, Value.tuple.injEq, reduceCtorEq, false_or] at hbu
 obtain ⟨hs', rfl, hb⟩ := hbu
 -- the new row
 have hv : RowV cx I w (.sl T' sz (row.map enc)) (ρ z) ∧ (∀ c, blk (ρ z) = some c → ∃ y ∈ M0, (σ.get y).isSome ∧ c ∈ blks (β y)) ∧ d ∉ M0 ∧ e ∉ M0 := by
  rcases hz with ⟨hz, rfl, rfl⟩ | ⟨j, hz, hj, rfl⟩
  ·rw [hz] at h3
   simp only [Rep, RepC] at h3
   rw [h3]
   exact ⟨Or.inl ⟨rfl, rfl⟩, fun c (hc : none = some c) => (by cases hc), by simp, by simp⟩
  ·rw [hz] at h3
   simp only [Rep] at h3
   obtain ⟨h3, h3s⟩ := h3
   rw [h3]
   refine ⟨RowV.of_slice (hw.objs j _ hj) fun e => (by rw [h3, e] at h3s; cases h3s), fun c hc => ⟨j, by simp, by rw [hj]; rfl, mem_blks hc⟩, fun hm => ?_, fun hm => ?_⟩
   ·rw [List.mem_singleton.1 hm, hj] at hd; cases hd
   ·rw [List.mem_singleton.1 hm, hj] at he; cases he
 obtain ⟨v1, v2, v3, v4⟩ := hv
 have hfresh : ∀ u b, u ∈ hs.toList → blk (ρ z) = some b → blk u ≠ some b := fun u b hu hbz hbu => by
  obtain ⟨y, y1, y2, y3⟩ := v2 b hbz
  refine hw.sepB e y (by rw [he]; rfl) y2 (fun e => v4 (e ▸ y1)) b ?_ y3
  rw [q3, blks_tuple]; exact List.mem_filterMap.2 ⟨u, hu, hbu⟩
 have hei' : e2 ∉ G.ids := by simpa using hei
 have e1 : ∀ w, (underlying T).run G.P w = .ok (.map K E) w := fun w => by simp [underlying, program, Sem.run, hT.und]
 have e2' : ∀ w, (underlying K).run G.P w = .ok (.int k) w := fun w => by simp [underlying, program, Sem.run, hT.key]
 have e3 := run_getObjM (P := G.P) q2
 have e4 := run_checkKeyI (P := G.P) hT.key false n w
 have hset : ∀ ob : Obj, (setObj r ob).run G.P w = .ok () { w with heap := w.heap.setIfInBounds r ob } := fun ob => by simp [setObj, Sem.run, q2]
 have hheap : ∀ ob : Obj, ({ w with heap := w.heap.setIfInBounds r ob } : World).heap[r]? = some ob := fun ob => by have := lt_of_some q2; simp [Array.getElem?_setIfInBounds, this]
 have fin : ∀ (hs2 : Array Value) (els' : List Rw) (keys' : List AV) (es' : Array MapEntry) (clock' : Nat), els' = encB T' sz enc (setI l n row) → keys' = encK k (setI l n row) →
   (execOp ρ o).run G.P w = .ok .skip { w with heap := w.heap.setIfInBounds r (.map es' clock') } → BunV cx I w els' hs2.toList → MapKV I keys' hs2.toList es'.toList → Born es' clock' →
   (∀ c ∈ hs2.toList.filterMap blk, c ∈ hs.toList.filterMap blk ∨ blk (ρ z) = some c) →
   UponV G.P (fun v w' => ∃ av, ∃ σ' : Sto, ∃ I' β', (av = .undef ∧ σ' = (e2, .bun (encB T' sz enc (setI l n row))) :: (d, .outM K E e2 (encK k (setI l n row)) none none) :: σ.minus (d :: e :: M0)) ∧ Rep I' β' av v ∧ RelW G cx I' β' σ' w' ∧ ImmLe I I' ∧ (∀ d, d ∉ [e2] → β' d = β d) ∧ (∀ x, x ∉ d :: e :: e2 :: M0 → σ'.get x = σ.get x)) ((execOp ρ o).run G.P w) := by
  intro hs2 els' keys' es' clock' p1 p2 p3 p4 p5 p6 p7
  subst p1 p2
  rw [p3]
  have := hw.remap hd he q1 he2 hei' hcl v3 (Kept.setObj w r (.map es' clock')) (hheap _) p4 p5 p6 fun c hc => by
   rcases p7 c hc with q | q
   ·exact .inl (by rw [q3, blks_tuple]; exact q)
   ·exact .inr (v2 c q)
  refine ⟨.undef, _, I, _, ⟨rfl, rfl⟩, by simp [Rep, RepC], this, ImmLe.refl I, fun y hy => if_neg (by simpa using hy), fun y hy => ?_⟩
  simp only [List.mem_cons, not_or] at hy
  rw [get2, if_neg (Ne.symm hy.2.2.1), if_neg (Ne.symm hy.1), if_neg (by simp [hy.1, hy.2.1, hy.2.2.2])]
 cases hg : getI l n with
 | none =>
  have has : as = hs.toList := by
   rcases hh with rfl | ⟨t, rfl⟩
   ·exact q4
   ·simp only [holeI, hg, Option.isSome_none, cond_false] at q4; exact q4
  rw [has] at q5
  obtain ⟨p1, p2⟩ := findKV_none n l hs.toList es.toList 0 q5 hg
  have e5 : (Instr.findKey K (.int k n) es.toList).run G.P w = .ok none w := by simp [Instr.findKey, e2', p1]
  refine fin (hs.push (ρ z)) (encB T' sz enc l ++ [.sl T' sz (row.map enc)]) (encK k (l ++ [(n, row)])) (es.push ⟨.int k n, ρ z, clock⟩) (clock + 1) ?_ ?_ ?_ ?_ ?_ ?_ ?_
  ·rw [setI_none row hg]; simp [encB]
  ·rw [setI_none row hg]
  ·rcases h with h | h <;> simp [execOp, h, Instr.mapUpdate, h1, q1, h2, e1, e3, e4, e5, hset]
  ·simp only [Array.toList_push]
   exact hb.push v1 hfresh
  ·simp only [Array.toList_push]
   exact p2 row ⟨.int k n, ρ z, clock⟩ rfl
  ·exact q8.push _ _
  ·intro c hc
   simp only [Array.toList_push, List.filterMap_append, List.mem_append] at hc
   rcases hc with hc | hc
   ·exact .inl hc
   ·obtain ⟨u, hu, hub⟩ := List.mem_filterMap.1 hc
    rw [List.mem_singleton.1 hu] at hub
    exact .inr hub
 | some a =>
  obtain ⟨v', e', p1, p2, p3, p4, p5⟩ := findKV_some n l as es.toList 0 a q5 hg
  have e5 : (Instr.findKey K (.int k n) es.toList).run G.P w = .ok (some (0 + posI l n, v')) w := by simp [Instr.findKey, e2', p4]
  have e6 : es[posI l n]? = some e' := by simpa using p2
  have e7 : (Instr.keyThatStays (.int k n) (.int k n)).run G.P w = .ok (.int k n) w := by simp [Instr.keyThatStays, Instr.sameBits]
  have has : as.set (posI l n) (ρ z) = hs.toList.set (posI l n) (ρ z) := by
   rcases hh with rfl | ⟨t, rfl⟩
   ·rw [show as = hs.toList from q4]
   ·simp only [holeI, hg, Option.isSome_some, cond_true] at q4
    obtain ⟨_, _, q4⟩ := q4
    rw [q4, List.set_set]
  have hsl : (hs.setIfInBounds (posI l n) (ρ z)).toList = hs.toList.set (posI l n) (ρ z) := by simp
  have hk' := p5 (ρ z) (fun e => { e with key := .int k n, val := ρ z }) (fun e => ⟨rfl, rfl⟩)
  rw [has] at hk'
  refine fin (hs.setIfInBounds (posI l n) (ρ z)) ((encB T' sz enc l).set (posI l n) (.sl T' sz (row.map enc))) (encK k l) (es.modify (posI l n) fun e => { e with key := .int k n, val := ρ z }) clock ?_ ?_ ?_ ?_ ?_ ?_ ?_
  ·rw [setI_pos row hg, encB_set]
  ·rw [setI_pos row hg, encK_set row hg]
  ·rcases h with h | h <;> simp [execOp, h, Instr.mapUpdate, h1, q1, h2, e1, e3, e4, e5, hset, e6, p3, e7]
  ·rw [hsl]
   exact hb.set v1 fun j u b _ hju hbz => hfresh u b (List.mem_of_getElem? hju) hbz
  ·rw [hsl]; simpa using hk'
  ·exact q8.modify _ _ fun _ => rfl
  ·intro c hc
   rw [hsl] at hc
   exact mem_set_blk hc
end
end Go.Proofs.Ytflifgcoleknlaa

/- Maps of own rows: made, put back, laid down for good; a map as it lies. No condition but those that stand in each. -/
namespace Go.Proofs.Ytflifgcoleknlaa
set_option linter.all false
open Go
section imms
variable {cx : Cx} {I : Imm} {β : Nat → Value} {w : World}
/-- more is laid down for good at other objects' blocks -/
theorem ObjRep.immS {I' : Imm} {d : Nat} {o : AObj} (hle : ImmLe I I') (hoB : ∀ b ∈ blks (β d), ∀ o, I' b o = I b o) (hold : ObjRep cx I β w d o) : ObjRep cx I' β w d o := by
 have hother : ∀ b' o, blk (β d) = some b' → I' b' o = I b' o := fun b' o hb' => hoB b' (mem_blks hb') o
 cases o with
 | bun els =>
  simp only [ObjRep] at hold ⊢
  rcases hold with q | ⟨hs, q1, q2⟩
  ·exact .inl q
  ·exact .inr ⟨hs, q1, q2.go hle fun b' hb' => ⟨fun _ => rfl, hoB b' (by rw [q1]; exact hb'), id⟩⟩
 | outS T e n hole =>
  simp only [ObjRep] at hold ⊢
  rcases hold with q | ⟨b', cap, arr, hs, q1, q2, q3, q4, q5, q6, q7, q8, q9, q10⟩
  ·exact .inl q
  ·exact .inr ⟨b', cap, arr, hs, q1, q2, q3, q4, q5, q6, q7, q8, fun o => by rw [hother b' o (by rw [q1]; rfl)]; exact q9 o, q10⟩
 | outM K E e keys hole fx =>
  simp only [ObjRep] at hold ⊢
  rcases hold with q | ⟨r, es, clock, hs, as, q1, q2, q3, q4, q5, q6, q7, q8⟩
  ·exact .inl q
  ·exact .inr ⟨r, es, clock, hs, as, q1, q2, q3, q4, q5.mono hle, fun o => by rw [hother r o (by rw [q1]; rfl)]; exact q6 o, q7, q8⟩
 | cells T cs =>
  simp only [ObjRep] at hold ⊢
  rcases hold with q | ⟨b', arr', q1, q2, q3, q4, q5⟩
  ·exact .inl q
  ·exact .inr ⟨b', arr', q1, q2, RepL_mono hle (HLe.refl _) _ _ q3, fun o => by rw [hother b' o (by rw [q1]; rfl)]; exact q4 o, q5⟩
 | slice T' sz' xs' k' fz' =>
  simp only [ObjRep] at hold ⊢
  rcases hold with q | q | ⟨b', cap', arr', q1, q2, q3, q4, q5, q6, q7, q8, q9, q10, q11⟩
  ·exact .inl q
  ·exact .inr (.inl q)
  ·have hne : blk (β d) = some b' := by rw [q1]; rfl
   exact .inr (.inr ⟨b', cap', arr', q1, q2, q3, q4, q5, RepCs_mono hle _ _ q6, q7, q8, fun hz o ho => by rw [hother b' o hne]; exact q9 hz o ho, fun o ho => by rw [hother b' o hne]; exact q10 o ho, q11⟩)
 | win T' sz' xs' =>
  simp only [ObjRep] at hold ⊢
  rcases hold with q | q | ⟨b', o', cap', arr', q1, q2, q3, q4, q5, q6, q7, q8, q9⟩
  ·exact .inl q
  ·exact .inr (.inl q)
  ·have hne : blk (β d) = some b' := by rw [q1]; rfl
   exact .inr (.inr ⟨b', o', cap', arr', q1, q2, q3, q4, q5, RepRows_mono hle _ _ _ q6, q7, fun hz o ho => by rw [hother b' o hne]; exact q8 hz o ho, q9⟩)
 | map K E ents =>
  simp only [ObjRep] at hold ⊢
  rcases hold with q | ⟨r, es, clock, q1, q2, q3, q4, q5⟩
  ·exact .inl q
  ·exact .inr ⟨r, es, clock, q1, q2, EntL_mono hle _ _ q3, fun o => by rw [hother r o (by rw [q1]; rfl)]; exact q4 o, q5⟩
 | mapF K E ents =>
  simp only [ObjRep] at hold ⊢
  rcases hold with q | ⟨r, es, clock, q1, q2, q3, q4⟩
  ·exact .inl q
  ·exact .inr ⟨r, es, clock, q1, hle _ _ _ q2, EntL_mono hle _ _ q3, q4⟩
 | mapx es clock K E ents =>
  simp only [ObjRep] at hold ⊢
  rcases hold with q | ⟨r, q1, q2, q3, q4, q5⟩
  ·exact .inl q
  ·exact .inr ⟨r, q1, q2, EntL_mono hle _ _ q3, fun o => by rw [hother r o (by rw [q1]; rfl)]; exact q4 o, q5⟩
 | iter dm since c0 seen =>
  simp only [ObjRep] at hold ⊢
  rcases hold with q | ⟨r, bm, q1, q2, q3, q4, q5⟩
  ·exact .inl q
  ·exact .inr ⟨r, bm, q1, q2, q3, fun o => by rw [hother r o (by rw [q1]; rfl)]; exact q4 o, q5⟩
end imms
section weak
variable {G : Gl} {env : Env} {σ : Sto}
theorem updT {I : Imm} {β β2 : Nat → Value} {env : Env} {a : Act} {e : Nat} (h : RelT I β env a) (hc : env.clean [e].contains = true) (hb : ∀ y, y ≠ e → β2 y = β y) : RelT I β2 env a := fun t =>
 Rep_beta (p := [e].contains) (fun d hd => hb d (by simpa using hd)) _ _ (Env.clean_get hc t) (h t)
/-- an empty own map as a map of rows -/
theorem Weak.toOutM {d e K E : Nat} (hd : σ.get d = some (.map K E [])) (he : σ.get e = none) (hi : G.ids.contains e = false) (hc : env.clean [e].contains = true) (hs : σ.clean [e].contains = true) :
  Weak G env σ env ((e, .bun []) :: (d, .outM K E e [] none none) :: σ.minus [d]) := fun cx I β a w h h' => by
 have hde : d ≠ e := fun e' => by subst e'; rw [he] at hd; cases hd
 have hi' : e ∉ G.ids := by simpa using hi
 refine ⟨I, updH β e (.tuple #[]), ?_, updT h' hc fun y hy => updH_ne β _ hy⟩
 have b2e : updH β e (.tuple #[]) e = .tuple #[] := updH_same _ _ _
 have b2d : updH β e (.tuple #[]) d = β d := updH_ne β _ hde
 have cls : ∀ y, y ∈ [d, e] → ∀ o, Sto.get ((e, AObj.bun []) :: (d, .outM K E e [] none none) :: σ.minus [d]) y = some o → (y = d ∧ o = .outM K E e [] none none) ∨ (y = e ∧ o = .bun []) := fun y hy o ho => by
  rw [get2] at ho
  split at ho
  ·rename_i e'; exact .inr ⟨e'.symm, (Option.some.inj ho).symm⟩
  ·rename_i n2
   split at ho
   ·rename_i e'; exact .inl ⟨e'.symm, (Option.some.inj ho).symm⟩
   ·rename_i n1
    simp only [List.mem_cons, List.not_mem_nil, or_false] at hy
    rcases hy with rfl | rfl
    ·exact absurd rfl n1
    ·exact absurd rfl n2
 have clsS : ∀ y, y ∈ [d, e] → (Sto.get ((e, AObj.bun []) :: (d, .outM K E e [] none none) :: σ.minus [d]) y).isSome → y = d ∨ y = e := fun y hy _ => by simpa using hy
 refine h.redo0 (M := [d, e]) (news := [e]) (fun y hy => ?_) (fun y hy => updH_ne β _ (by simpa using hy)) (fun y hy => ?_) (fun y o _ hyo => (Sto.clean_get hs y o hyo).2) (fun y hy o hyo => ?_) (fun y hy hs2 c hc => ?_) (fun y hy z hz hyz hs1 hs2 c hc hc' => ?_)
 ·simp only [List.mem_cons, List.not_mem_nil, or_false, not_or] at hy
  rw [get2, if_neg (Ne.symm hy.2), if_neg (Ne.symm hy.1), if_neg (by simp [hy.1])]
 ·simp only [List.mem_singleton] at hy; subst hy; exact ⟨by simp, hi'⟩
 ·rcases cls y hy o hyo with ⟨rfl, rfl⟩ | ⟨rfl, rfl⟩
  ·have := h.objs y _ hd
   simp only [ObjRep, b2d, b2e] at this ⊢
   rcases this with q | ⟨r, es, clock, q1, q2, q3, q4, q5, q6⟩
   ·exact .inl q
   ·refine .inr ⟨r, es, clock, #[], [], q1, q2, rfl, rfl, ?_, q4, q5, q6, by simp⟩
    have : es.toList = [] := by cases hes : es.toList <;> simp_all [EntL]
    rw [this]; exact ⟨rfl, rfl⟩
  ·simp only [ObjRep, b2e]
   exact .inr ⟨#[], rfl, rfl⟩
 ·rcases clsS y hy hs2 with rfl | rfl
  ·rw [b2d] at hc; exact ⟨y, by simp, by rw [hd]; rfl, hc⟩
  ·rw [b2e] at hc; cases hc
 ·rcases clsS y hy hs1 with rfl | rfl
  ·rcases clsS z hz hs2 with rfl | rfl
   ·exact hyz rfl
   ·rw [b2e] at hc'; cases hc'
  ·rw [b2e] at hc; cases hc
/-- a row back in its place -/
theorem Weak.backM {α : Type} {T' sz : Nat} {K E d e e2 t : Nat} {k : IntKind} {fz : Bool} {fx : Option (Array MapEntry × Nat)} (l : List (Int × List α)) (n : Int) (enc : α → List AV) (row : List α) (hl : (getI l n).isSome = true)
  (hd : σ.get d = some (.outM K E e (encK k l) (holeI l n t) fx)) (he : σ.get e = some (.bun (encB T' sz enc (holI l n)))) (ht : σ.get t = some (.slice T' sz (row.map enc) 0 fz))
  (he2 : σ.get e2 = none) (hei : G.ids.contains e2 = false) (hc : env.clean [e2].contains = true) (hs : σ.clean [e2].contains = true) :
  Weak G env σ env ((e2, .bun (encB T' sz enc (setI l n row))) :: (d, .outM K E e2 (encK k (setI l n row)) none fx) :: σ.minus [d, e, t]) := fun cx I β a w h h' => by
 obtain ⟨a0, hg⟩ := Option.isSome_iff_exists.1 hl
 have hh : holeI l n t = some (some (posI l n), t) := by simp [holeI, hg]
 rw [hh] at hd
 obtain ⟨β2, h1, h2⟩ := h.back hd rfl he ht he2 (by simpa using hei) hs
 refine ⟨I, β2, ?_, updT h' hc h1⟩
 have e1 : (encB T' sz enc (holI l n)).set (posI l n) (.sl T' sz (row.map enc)) = encB T' sz enc (setI l n row) := by
  rw [holI_posI hg, encB_set, List.set_set, setI_pos row hg, encB_set]
 rw [e1] at h2
 have e2' : encK k (setI l n row) = encK k l := by rw [setI_pos row hg, encK_set row hg]
 rw [e2']
 exact h2
theorem RowV.lst {cx : Cx} {I I' : Imm} {w : World} {T sz : Nat} {xs : List (List AV)} {v : Value} (h : RowV cx I w (.sl T sz xs) v) (hle : ImmLe I I') (hI : ∀ b, blk v = some b → ∀ o, I' b o = snap w b o) : RepC I' (.lst false xs) v := by
 rcases h with ⟨rfl, rfl⟩ | ⟨b, cap, arr, rfl, h2, h3, h4, h5, h6, h7, h8, h9⟩
 ·simp only [RepC]
  exact ⟨none, 0, rfl, by simp, by simp [maxLen], by simp, .inl trivial⟩
 ·simp only [RepC]
  refine ⟨_, cap, rfl, h2, h3, by simp, .inr ⟨b, 0, rfl, ?_⟩⟩
  have hcell : ∀ o : Nat, I' b o = arr[o]? := fun o => by rw [hI b rfl o]; simp [snap, World.cell?, h4]
  have key : ∀ (ys : List (List AV)) (off : Nat) (us : List Value), (∀ e ∈ ys, e.length = sz) → RepCs I ys.flatten us → (∀ j, j < us.length → arr[off + j]? = us[j]?) → RepRows I' b ys off := by
   intro ys
   induction ys with
   | nil => intro _ _ _ _ _; simp [RepRows]
   | cons y ys ih =>
    intro off us hy hr hu
    simp only [List.flatten_cons] at hr
    have row : ∀ (cs : List AV) (o : Nat) (rest : List AV) (us : List Value), RepCs I (cs ++ rest) us → (∀ j, j < us.length → arr[o + j]? = us[j]?) → RepRow I' b cs o ∧ ∃ us2, RepCs I rest us2 ∧ us = us.take cs.length ++ us2 ∧ us2 = us.drop cs.length := by
     intro cs
     induction cs with
     | nil => intro o rest us h _; exact ⟨by simp [RepRow], us, h, by simp, by simp⟩
     | cons c cs ih2 =>
      intro o rest us h hj
      simp only [List.cons_append, RepCs] at h
      obtain ⟨u, us', rfl, h1, h2⟩ := h
      obtain ⟨g1, us2, g2, g3, g4⟩ := ih2 (o + 1) rest us' h2 fun j hj' => by
       have := hj (j + 1) (by simpa using hj')
       simpa [Nat.add_assoc, Nat.add_comm 1] using this
      refine ⟨?_, us2, g2, by simpa using g3, by simpa using g4⟩
      simp only [RepRow]
      refine ⟨⟨u, ?_, RepC_mono hle c u h1⟩, g1⟩
      rw [hcell]
      simpa using hj 0 (by simp)
    obtain ⟨g1, us2, g2, g3, g4⟩ := row y off ys.flatten us hr hu
    simp only [RepRows]
    refine ⟨g1, ih (off + y.length) us2 (fun e he => hy e (List.mem_cons_of_mem _ he)) g2 fun j hj => ?_⟩
    subst g4
    have := hu (y.length + j) (by simp at hj; omega)
    rw [List.getElem?_drop, ← this, Nat.add_assoc]
  refine key xs 0 _ h7 h6 fun j hj => ?_
  rw [Nat.zero_add, List.getElem?_take]
  have hj : j < min (xs.length * sz) arr.size := by simpa using hj
  rw [if_pos (by omega)]; simp
theorem entL_rows {cx : Cx} {I I' : Imm} {w : World} {α : Type} {k : IntKind} {T sz : Nat} {enc : α → List AV} (hle : ImmLe I I') : ∀ (l : List (Int × List α)) (vs : List Value) (es : List MapEntry), MapKV I (encK k l) vs es → BunV cx I w (encB T sz enc l) vs → (∀ b ∈ vs.filterMap blk, ∀ o, I' b o = snap w b o) →
  EntL I' (encM k (fun rows => .lst false (rows.map enc)) l) es
 | [], vs, es, h, _, _ => by
  simp only [encK, List.map_nil, MapKV] at h
  rw [h.2]; simp [encM, EntL]
 | (n, rows) :: l, vs, es, h, hb, hI => by
  simp only [encK, List.map_cons, MapKV] at h
  obtain ⟨v, us, e, fs, rfl, rfl, h3, h4, h5⟩ := h
  simp only [encB, List.map_cons, BunV] at hb
  obtain ⟨v', us', hvu, b1, b2, b3⟩ := hb
  cases hvu
  simp only [encM, List.map_cons, EntL]
  refine ⟨e, fs, rfl, RepC_mono hle _ _ h3, ?_, entL_rows hle l us fs h5 b3 fun b hb => hI b ?_⟩
  ·rw [h4]
   exact RowV.lst b1 hle fun b hb => hI b (by simp [hb])
  ·rw [List.filterMap_cons]; split
   ·exact hb
   ·exact List.mem_cons_of_mem _ hb
/-- a map of rows is laid down for good -/
theorem Weak.frzM {α : Type} {T' sz : Nat} {K E d e : Nat} {k : IntKind} {fx : Option (Array MapEntry × Nat)} (l : List (Int × List α)) (enc : α → List AV)
  (hd : σ.get d = some (.outM K E e (encK k l) none fx)) (he : σ.get e = some (.bun (encB T' sz enc l))) :
  Weak G env σ env ((d, .mapF K E (encM k (fun rows => .lst false (rows.map enc)) l)) :: σ.minus [d, e]) := fun cx I β a w h h' => by
 have hde : d ≠ e := fun e' => by subst e'; rw [hd] at he; cases he
 have hds : (σ.get d).isSome := by rw [hd]; rfl
 have hes : (σ.get e).isSome := by rw [he]; rfl
 let I' : Imm := fun b o => if b ∈ blks (β d) ∨ b ∈ blks (β e) then snap w b o else I b o
 have hin : ∀ b, b ∈ blks (β d) ∨ b ∈ blks (β e) → ∀ o, I' b o = snap w b o := fun b hb o => if_pos hb
 have hout : ∀ b, ¬ (b ∈ blks (β d) ∨ b ∈ blks (β e)) → ∀ o, I' b o = I b o := fun b hb o => if_neg hb
 have hle : ImmLe I I' := fun b o v hv => by
  by_cases hb : b ∈ blks (β d) ∨ b ∈ blks (β e)
  ·rw [hin b hb]; exact h.snapLe b o v hv
  ·rw [hout b hb]; exact hv
 have hpl : ∀ b, b ∈ blks (β d) ∨ b ∈ blks (β e) → Place cx b := fun b hb => by
  rcases hb with hb | hb
  ·exact (h.obj_at hd hb).2
  ·exact (h.obj_at he hb).2
 have sub : ∀ x o, Sto.get ((d, .mapF K E (encM k (fun rows => .lst false (rows.map enc)) l)) :: σ.minus [d, e]) x = some o → (x = d ∧ o = .mapF K E (encM k (fun rows => .lst false (rows.map enc)) l)) ∨ (x ≠ d ∧ x ≠ e ∧ σ.get x = some o) := fun x o hx => by
  rw [Sto.get_cons, Sto.minus_get] at hx
  split at hx
  ·rename_i e'; exact .inl ⟨e'.symm, (Option.some.inj hx).symm⟩
  ·rename_i n1
   split at hx
   ·cases hx
   ·rename_i n2
    simp only [List.mem_cons, List.not_mem_nil, or_false, not_or] at n2
    exact .inr ⟨n2.1, n2.2, hx⟩
 have subS : ∀ x, (Sto.get ((d, AObj.mapF K E (encM k (fun rows => .lst false (rows.map enc)) l)) :: σ.minus [d, e]) x).isSome → (σ.get x).isSome := fun x hx => by
  obtain ⟨o, hx⟩ := Option.isSome_iff_exists.1 hx
  rcases sub x o hx with ⟨rfl, _⟩ | ⟨_, _, hx⟩
  ·exact hds
  ·rw [hx]; rfl
 refine ⟨I', β, { h with good := fun b o v hv => ?_, goodM := fun b v hv => ?_, imono := h.imono.trans hle, iext := fun b hb hn o => ?_, objs := fun x o hx => ?_, sepB := fun x y hx hy => h.sepB x y (subS x hx) (subS y hy) }, h'.mono hle (HLe.refl β)⟩
 ·by_cases hb : b ∈ blks (β d) ∨ b ∈ blks (β e)
  ·rw [hin b hb] at hv; exact snap_good b o v hv
  ·rw [hout b hb] at hv; exact h.good b o v hv
 ·by_cases hb : b ∈ blks (β d) ∨ b ∈ blks (β e)
  ·rw [hin b hb] at hv; exact snap_goodM b v hv
  ·rw [hout b hb] at hv; exact h.goodM b v hv
 ·have : ¬ (b ∈ blks (β d) ∨ b ∈ blks (β e)) := fun hb' => by
   rcases hpl b hb' with q | q
   ·omega
   ·exact hn q
  rw [hout b this]
  exact h.iext b hb hn o
 ·rcases sub x o hx with ⟨rfl, rfl⟩ | ⟨n1, n2, hx⟩
  ·have hod := h.objs x _ hd
   simp only [ObjRep] at hod ⊢
   rcases hod with q | ⟨r, es, clock, hs, as, q1, q2, q3, q4, q5, q6, q7, q8, _⟩
   ·exact .inl q
   ·rw [show as = hs.toList from q4] at q5
    have hbu := h.objs e _ he
    simp only [ObjRep, q3, Value.tuple.injEq, reduceCtorEq, false_or] at hbu
    obtain ⟨hs', rfl, hb⟩ := hbu
    refine .inr ⟨r, es, clock, q1, ?_, entL_rows hle l hs.toList es.toList q5 hb fun b hb' => hin b (.inr (by rw [q3, blks_tuple]; exact hb')), q7, q8⟩
    rw [hin r (.inl (mem_blks (by rw [q1]; rfl)))]
    simp [snap, q2]
  ·refine (h.objs x o hx).immS hle fun b hb => hout b fun hb' => ?_
   rcases hb' with q | q
   ·exact h.sepB x d (by rw [hx]; rfl) hds n1 b hb q
   ·exact h.sepB x e (by rw [hx]; rfl) hes n2 b hb q
/-- something that is there is taken at its word -/
theorem A.ex {c : Code} {Q : Exit → Env → Sto → Prop} {ι : Type} {env2 : ι → Env} {σ2 : ι → Sto} (h : ∀ cx I β a w, RelW G cx I β σ w → RelT I β env a → ∃ i I' β', RelW G cx I' β' (σ2 i) w ∧ RelT I' β' (env2 i) a) (k : ∀ i, acode G c Q (env2 i) (σ2 i)) : acode G c Q env σ :=
 acode.of fun cx a w hr => by
  obtain ⟨I, β, h1, h2, h3, h4⟩ := hr
  obtain ⟨i, I', β', h5, h6⟩ := h cx I β a w h1 h2
  exact (k i).use cx a w ⟨I', β', h5, h6, h3, h4⟩
theorem sto_swap {d : Nat} {o o2 : AObj} (hd : σ.get d = some o) {cx : Cx} {I : Imm} {β : Nat → Value} {w : World} (h : RelW G cx I β σ w) (ho : ObjRep cx I β w d o2) : RelW G cx I β (σ.set d o2) w := by
 have hS : ∀ x, (Sto.get (σ.set d o2) x).isSome → (σ.get x).isSome := fun x hx => by
  rw [Sto.set_get] at hx
  split at hx
  ·rename_i e; subst e; rw [hd]; rfl
  ·exact hx
 refine { h with objs := fun x o' hx => ?_, sepB := fun x y hx hy => h.sepB x y (hS x hx) (hS y hy) }
 rw [Sto.set_get] at hx
 split at hx
 ·rename_i e; subst e; rw [hd] at hx; cases hx; exact ho
 ·exact h.objs x o' hx
/-- an own map, as it lies -/
theorem A.fixM {c : Code} {Q : Exit → Env → Sto → Prop} {d K E : Nat} {ents : List (AV × AV)} (hd : σ.get d = some (.map K E ents)) (k : ∀ es clock, acode G c Q env (σ.set d (.mapx es clock K E ents))) : acode G c Q env σ :=
 A.ex (ι := Array MapEntry × Nat) (env2 := fun _ => env) (σ2 := fun i => σ.set d (.mapx i.1 i.2 K E ents)) (fun cx I β a w h h' => by
  have := h.objs d _ hd
  simp only [ObjRep] at this
  rcases this with q | ⟨r, es, clock, q1, q2, q3, q4, q5, q6⟩
  ·exact ⟨(#[], 0), I, β, sto_swap hd h (by simp only [ObjRep]; exact .inl q), h'⟩
  ·exact ⟨(es, clock), I, β, sto_swap hd h (by simp only [ObjRep]; exact .inr ⟨r, q1, q2, q3, q4, q5, q6⟩), h'⟩) fun i => k i.1 i.2
theorem Weak.unfix {d K E clock : Nat} {es : Array MapEntry} {ents : List (AV × AV)} (hd : σ.get d = some (.mapx es clock K E ents)) : Weak G env σ env (σ.set d (.map K E ents)) := fun cx I β a w h h' => by
 refine ⟨I, β, sto_swap hd h ?_, h'⟩
 have := h.objs d _ hd
 simp only [ObjRep] at this ⊢
 rcases this with q | ⟨r, q1, q2, q3, q4, q5, q6⟩
 ·exact .inl q
 ·exact .inr ⟨r, es, clock, q1, q2, q3, q4, q5, q6⟩
/-- a map of rows, as it lies -/
theorem A.fixO {c : Code} {Q : Exit → Env → Sto → Prop} {d K E e : Nat} {keys : List AV} {hole : Option (Option Nat × Nat)} (hd : σ.get d = some (.outM K E e keys hole none)) (k : ∀ es clock, acode G c Q env (σ.set d (.outM K E e keys hole (some (es, clock))))) : acode G c Q env σ :=
 A.ex (ι := Array MapEntry × Nat) (env2 := fun _ => env) (σ2 := fun i => σ.set d (.outM K E e keys hole (some i))) (fun cx I β a w h h' => by
  have := h.objs d _ hd
  simp only [ObjRep] at this
  rcases this with q | ⟨r, es, clock, hs, as, q1, q2, q3, q4, q5, q6, q7, q8, _⟩
  ·exact ⟨(#[], 0), I, β, sto_swap hd h (by simp only [ObjRep]; exact .inl q), h'⟩
  ·exact ⟨(es, clock), I, β, sto_swap hd h (by simp only [ObjRep]; exact .inr ⟨r, es, clock, hs, as, q1, q2, q3, q4, q5, q6, q7, q8, fun q hq => (Option.some.inj hq).symm⟩), h'⟩) fun i => k i.1 i.2
end weak
end Go.Proofs.Ytflifgcoleknlaa

/- Ranging over a map whose entries are known as they lie; deleting. No condition but those that stand in each. -/
namespace Go.Proofs.Ytflifgcoleknlaa
set_option linter.all false
open Go
open Go.ChangeMaps (setBlock)
/-! ### the plain word -/
def foldB {α S : Type} (B : Int → α → S → Option S) : List (Int × α) → S → Option S
 | [], s => some s
 | p :: r, s => match B p.1 p.2 s with | none => none | some s' => foldB B r s'
open Classical in
/-- each entry once: told only if no order tells another tale -/
noncomputable def forMap {α S : Type} (l : List (Int × α)) (B : Int → α → S → Option S) (s : S) : Option S :=
 if ∀ l' : List (Int × α), l'.Perm l → foldB B l' s = foldB B l s then foldB B l s else none
theorem forMap_some {α S : Type} {l : List (Int × α)} {B : Int → α → S → Option S} {s r : S} (h : forMap l B s = some r) : (∀ l' : List (Int × α), l'.Perm l → foldB B l' s = foldB B l s) ∧ foldB B l s = some r := by
 unfold forMap at h
 split at h
 ·rename_i h1; exact ⟨h1, h⟩
 ·cases h
theorem forMap_eq {α S : Type} {l : List (Int × α)} {B : Int → α → S → Option S} {s r : S} (h : ∀ l' : List (Int × α), l'.Perm l → foldB B l' s = some r) : forMap l B s = some r := by
 unfold forMap
 rw [if_pos fun l' hl => by rw [h l' hl, h l (List.Perm.refl l)]]
 exact h l (List.Perm.refl l)
theorem foldB_append {α S : Type} {B : Int → α → S → Option S} : ∀ (l l' : List (Int × α)) (s : S), foldB B (l ++ l') s = (foldB B l s).bind (foldB B l')
 | [], _, _ => rfl
 | p :: r, l', s => by
  simp only [List.cons_append, foldB]
  cases B p.1 p.2 s with
  | none => rfl
  | some s' => exact foldB_append r l' s'
section
variable {G : Gl} {σ : Sto} {o : Oper} {ev : Operand → AV}
def AObj.lie : AObj → Option (Array MapEntry × Nat)
 | .mapx es c _ _ _ => some (es, c)
 | .outM _ _ _ _ _ fx => fx
 | _ => none
theorem lie_at {cx : Cx} {I : Imm} {β : Nat → Value} {w : World} (hw : RelW G cx I β σ w) {dm clock : Nat} {om : AObj} {es : Array MapEntry} (hd : σ.get dm = some om) (hl : om.lie = some (es, clock)) (hn : β dm ≠ .nilFunc) :
  ∃ bm, β dm = .map (some bm) ∧ w.heap[bm]? = some (.map es clock) ∧ Born es clock := by
 have h := hw.objs dm om hd
 cases om <;> simp only [AObj.lie, reduceCtorEq] at hl
 ·cases hl
  simp only [ObjRep, hn, false_or] at h
  obtain ⟨r, q1, q2, q3, q4, q5, q6⟩ := h
  exact ⟨r, q1, q2, q6⟩
 ·simp only [ObjRep, hn, false_or] at h
  obtain ⟨r, es', clock', hs, as, q1, q2, q3, q4, q5, q6, q7, q8, q9⟩ := h
  cases q9 _ hl
  exact ⟨r, q1, q2, q8⟩
theorem D.range {T dm di K E clock : Nat} {x : Operand} {es : Array MapEntry} {om : AObj} (h : o.op = .range T x) (hx : ev x = .mapv dm) (hd : σ.get dm = some om) (hl : om.lie = some (es, clock)) (hT : G.P.underlying T = some (.map K E))
  (hi : G.ids.contains di = false) (hc : σ.clean [di].contains = true) : Does G o ev σ [di] [di] (fun r σ' => r = .ptr di 0 ∧ σ' = (di, .iter dm clock clock #[]) :: σ) := by
 intro cx I β w ρ hw hop
 have h1 := hop x (by simp [h, Op.operands]); rw [hx] at h1
 simp only [Rep] at h1
 obtain ⟨h1, h1m⟩ := h1
 have hdn : β dm ≠ .nilFunc := fun e => by rw [h1, e] at h1m; simp [isMp] at h1m
 obtain ⟨bm, q1, q2, q3⟩ := lie_at hw hd hl hdn
 have hdi : dm ≠ di := fun e => by
  have := (Sto.clean_get hc dm om hd).1
  simp [e] at this
 have hrun : (execOp ρ o).run G.P w = .ok (.value (.pointer (some ⟨w.heap.size, 0, none⟩))) (w.alloc (.mapIter (some bm) clock #[] clock)) := by
  simp [execOp, h, h1, q1, run_range_map w T K E bm es clock hT q2]
 rw [hrun]
 have hv := hw.virt (mat := [di]) (σ2 := σ) (env := []) ⟨fun _ _ => rfl, by simpa using hi, rfl, hc⟩
 have hb : ∀ y, y ≠ di → updH (setH β [di]) di (.pointer (some ⟨w.heap.size, 0, none⟩)) y = β y := fun y hy => by rw [updH_ne _ _ hy]; simp [setH, hy]
 have hbi : updH (setH β [di]) di (.pointer (some ⟨w.heap.size, 0, none⟩)) di = .pointer (some ⟨w.heap.size, 0, none⟩) := updH_same _ _ _
 refine ⟨.ptr di 0, _, I, updH (setH β [di]) di (.pointer (some ⟨w.heap.size, 0, none⟩)), ⟨rfl, rfl⟩, ?_, ?_, ImmLe.refl I, fun y hy => hb y (by simpa using hy), fun y hy => by rw [Sto.get_cons, if_neg (Ne.symm (by simpa using hy))]⟩
 ·simp only [Rep, hbi]
  exact ⟨w.heap.size, rfl, rfl⟩
 ·refine hv.turn (d := di) (Kept.alloc w _) (.inl hw.size) (fun x hx => by rw [Sto.get_cons, if_neg (Ne.symm hx)]) (fun x hx hs e => by
    obtain ⟨ob, hs⟩ := Option.isSome_iff_exists.1 hs
    exact absurd (hv.obj_lt hs e) (by omega)) (ImmLe.refl I) (fun _ _ _ => rfl) (fun o' v' hv' => by rw [hw.imm_none (Nat.le_refl _)] at hv'; cases hv') (hw.imm_none (Nat.le_refl _) none)
   (fun x hx => updH_ne _ _ hx) (.inl (by simpa using hi)) (HLe.upd (by simp [setH])) (.inl (by rw [hbi]; rfl)) fun ob hob => ?_
  rw [Sto.get_cons, if_pos rfl] at hob
  cases hob
  simp only [ObjRep, hbi, hb dm hdi, q1]
  exact .inr ⟨w.heap.size, bm, rfl, rfl, heap_alloc_new w _, fun o => hw.imm_none (Nat.le_refl _) o, .inl hw.size⟩
theorem D.next {dm di clock : Nat} {x : Operand} {es : Array MapEntry} {seen : Array Nat} {om : AObj} (h : o.op = .next x false) (hx : ev x = .ptr di 0) (hi : σ.get di = some (.iter dm clock clock seen)) (hd : σ.get dm = some om) (hl : om.lie = some (es, clock)) :
  Does G o ev σ [di] [] (fun r σ' => ((leftOf es seen).size = 0 ∧ r = .tup [.bool false] ∧ σ' = σ) ∨ ∃ e ∈ (leftOf es seen).toList, r = .tup [.bool true, .junk, .junk] ∧ σ' = σ.set di (.iter dm clock clock (seen.push e.born))) := by
 intro cx I β w ρ hw hop
 have h1 := hop x (by simp [h, Op.operands]); rw [hx] at h1
 simp only [Rep] at h1
 obtain ⟨b, h1, h2⟩ := h1
 have hin : β di ≠ .nilFunc := fun e => by rw [e] at h1; cases h1
 have hit := hw.objs di _ hi
 simp only [ObjRep, hin, false_or] at hit
 obtain ⟨r, bm, q1, q2, q3, q4, q5⟩ := hit
 have hbr : b = r := by rw [q1] at h1; simpa [blk] using h1.symm
 subst hbr
 have hdn : β dm ≠ .nilFunc := fun e => by rw [e] at q2; cases q2
 obtain ⟨bm', p1, p2, p3⟩ := lie_at hw hd hl hdn
 have : bm' = bm := by rw [p1] at q2; simpa [blk] using q2
 subst this
 rcases run_next_at (P := G.P) w o.type b bm' clock clock seen es clock q3 p2 p3.2 (Nat.le_refl _) with ⟨s1, s2⟩ | ⟨e, s1, w1, s2, s3⟩
 ·have hrun : (execOp ρ o).run G.P w = .ok (.value (.tuple #[.bool false])) w := by simp [execOp, h, h2, s2]
  rw [hrun]
  refine ⟨.tup [.bool false], σ, I, β, .inl ⟨s1, rfl, rfl⟩, ?_, hw, ImmLe.refl I, fun _ _ => rfl, fun _ _ => rfl⟩
  simp [Rep, RepL, RepC]
 ·have hrun : (execOp ρ o).run G.P w = .ok (.value (.tuple #[.bool true, e.key, e.val])) (setBlock w1 b (.mapIter (some bm') clock (seen.push e.born) clock)) := by simp [execOp, h, h2, s3]
  rw [hrun]
  refine ⟨.tup [.bool true, .junk, .junk], σ.set di (.iter dm clock clock (seen.push e.born)), I, β, .inr ⟨e, s1, rfl, rfl⟩, ?_, ?_, ImmLe.refl I, fun _ _ => rfl, fun y hy => by rw [Sto.set_get, if_neg (by simpa using hy)]⟩
  ·simp only [Rep, RepL, RepC]
   exact ⟨_, rfl, _, _, rfl, rfl, _, _, rfl, trivial, _, _, rfl, trivial, rfl⟩
  ·have hk : Kept w (setBlock w1 b (.mapIter (some bm') clock (seen.push e.born) clock)) b := by
    rcases s2 with rfl | rfl
    ·exact Kept.setObj _ b _
    ·exact Kept.drew (Kept.setObj _ b _)
   have hbd : blk (β di) = some b := h1
   have hh : (setBlock w1 b (.mapIter (some bm') clock (seen.push e.born) clock)).heap[b]? = some (.mapIter (some bm') clock (seen.push e.born) clock) := by
    have hlt := lt_of_some q3
    have : w1.heap = w.heap := by rcases s2 with rfl | rfl <;> rfl
    simp [setBlock, this, Array.getElem?_setIfInBounds, hlt]
   refine hw.turn (d := di) hk q5 (fun x hx => by rw [Sto.set_get, if_neg hx]) (fun x hx hs e' => hw.sepB x di hs (by rw [hi]; rfl) hx b e' (mem_blks hbd)) (ImmLe.refl I) (fun _ _ _ => rfl)
    (fun o v hv => by rw [q4 o] at hv; cases hv) (q4 none) (fun _ _ => rfl) (.inr rfl) (HLe.refl β) (.inl hbd) fun ob hob => ?_
   rw [Sto.set_get, if_pos rfl, hi] at hob
   injection hob with hob
   subst hob
   simp only [ObjRep]
   exact .inr ⟨b, bm', q1, q2, hh, q4, q5⟩
theorem EntL_get {I : Imm} : ∀ {ents : List (AV × AV)} {es : List MapEntry} {i : Nat} {a c : AV} {e : MapEntry}, EntL I ents es → ents[i]? = some (a, c) → es[i]? = some e → RepC I a e.key ∧ RepC I c e.val
 | [], _, i, _, _, _, _, h, _ => by simp at h
 | (k, v) :: r, _, i, a, c, e, h, ha, he => by
  simp only [EntL] at h
  obtain ⟨f, us, rfl, h1, h2, h3⟩ := h
  cases i with
  | zero => simp at ha he; obtain ⟨rfl, rfl⟩ := ha; subst he; exact ⟨h1, h2⟩
  | succ i => simp at ha he; exact EntL_get h3 ha he
theorem MapKV_get {I : Imm} : ∀ {ks : List AV} {vs : List Value} {es : List MapEntry} {i : Nat} {a : AV} {e : MapEntry}, MapKV I ks vs es → ks[i]? = some a → es[i]? = some e → RepC I a e.key
 | [], _, _, i, _, _, _, h, _ => by simp at h
 | k :: r, _, _, i, a, e, h, ha, he => by
  simp only [MapKV] at h
  obtain ⟨v, us, f, fs, rfl, rfl, h1, h2, h3⟩ := h
  cases i with
  | zero => simp at ha he; subst ha; subst he; exact h1
  | succ i => simp at ha he; exact MapKV_get h3 ha he
theorem entry_run {cx : Cx} {I : Imm} {β : Nat → Value} {w : World} {ρ : Operand → Value} {dm di clock i : Nat} {x : Operand} {es : Array MapEntry} {seen : Array Nat} {om : AObj} {e : MapEntry} (hw : RelW G cx I β σ w) (h : o.op = .entry x) (h1 : Rep I β (.ptr di 0) (ρ x))
  (hi : σ.get di = some (.iter dm clock clock (seen.push e.born))) (hd : σ.get dm = some om) (hl : om.lie = some (es, clock)) (he : es[i]? = some e) : (execOp ρ o).run G.P w = .ok (.value (.tuple #[e.key, e.val])) w ∧ β dm ≠ .nilFunc := by
 simp only [Rep] at h1
 obtain ⟨b, h1, h2⟩ := h1
 have hin : β di ≠ .nilFunc := fun e => by rw [e] at h1; cases h1
 have hit := hw.objs di _ hi
 simp only [ObjRep, hin, false_or] at hit
 obtain ⟨r, bm, q1, q2, q3, q4, q5⟩ := hit
 have hbr : b = r := by rw [q1] at h1; simpa [blk] using h1.symm
 subst hbr
 have hdn : β dm ≠ .nilFunc := fun e => by rw [e] at q2; cases q2
 obtain ⟨bm', p1, p2, p3⟩ := lie_at hw hd hl hdn
 have : bm' = bm := by rw [p1] at q2; simpa [blk] using q2
 subst this
 have hmem : e ∈ es.toList := by
  have : es.toList[i]? = some e := by simpa using he
  exact List.mem_of_getElem? this
 exact ⟨by simp [execOp, h, h2, run_entry_at (P := G.P) w b bm' clock seen es clock e q3 p2 hmem p3.1], hdn⟩
/-- the entry of an own map -/
theorem Y.entryX {α : Type} {dm di clock i K E : Nat} {k : IntKind} {x : Operand} {es : Array MapEntry} {seen : Array Nat} {e : MapEntry} {n : Int} {v : α} (l : List (Int × α)) (enc : α → AV) (h : o.op = .entry x) (hx : ev x = .ptr di 0) (hi : σ.get di = some (.iter dm clock clock (seen.push e.born)))
  (hd : σ.get dm = some (.mapx es clock K E (encM k enc l))) (he : es[i]? = some e) (hn : l[i]? = some (n, v)) : Yields G o ev σ [] [di, dm] (.tup [.int k n, enc v]) :=
 .pure fun σ' cx I β w ρ hR hw hop => by
  have h1 := hop x (by simp [h, Op.operands]); rw [hx] at h1
  have hd' : σ'.get dm = some (.mapx es clock K E (encM k enc l)) := by rw [hR dm (by simp)]; exact hd
  obtain ⟨r1, r2⟩ := entry_run hw h h1 (by rw [hR di (by simp)]; exact hi) hd' rfl he
  refine ⟨_, r1, ?_⟩
  have ho := hw.objs dm _ hd'
  simp only [ObjRep, r2, false_or] at ho
  obtain ⟨r, q1, q2, q3, _⟩ := ho
  obtain ⟨s1, s2⟩ := EntL_get q3 (i := i) (a := .int k n) (c := enc v) (e := e) (by simp [encM, hn]) (by simpa using he)
  simp only [Rep, RepL]
  exact ⟨_, rfl, e.key, [e.val], rfl, s1, e.val, [], rfl, RepC.rep β _ _ s2, rfl⟩
/-- the entry of a map of rows: its key -/
theorem Y.entryO {α : Type} {dm di clock i K E e0 : Nat} {k : IntKind} {hole : Option (Option Nat × Nat)} {x : Operand} {es : Array MapEntry} {seen : Array Nat} {e : MapEntry} {n : Int} (l : List (Int × α)) (h : o.op = .entry x) (hx : ev x = .ptr di 0) (hi : σ.get di = some (.iter dm clock clock (seen.push e.born)))
  (hd : σ.get dm = some (.outM K E e0 (encK k l) hole (some (es, clock)))) (he : es[i]? = some e) (hn : (l.map (·.1))[i]? = some n) : Yields G o ev σ [] [di, dm] (.tup [.int k n, .junk]) :=
 .pure fun σ' cx I β w ρ hR hw hop => by
  have h1 := hop x (by simp [h, Op.operands]); rw [hx] at h1
  have hd' : σ'.get dm = some (.outM K E e0 (encK k l) hole (some (es, clock))) := by rw [hR dm (by simp)]; exact hd
  obtain ⟨r1, r2⟩ := entry_run hw h h1 (by rw [hR di (by simp)]; exact hi) hd' rfl he
  refine ⟨_, r1, ?_⟩
  have ho := hw.objs dm _ hd'
  simp only [ObjRep, r2, false_or] at ho
  obtain ⟨r, es', clock', hs, as, q1, q2, q3, q4, q5, q6, q7, q8, q9⟩ := ho
  cases q9 _ rfl
  have s1 := MapKV_get q5 (i := i) (a := .int k n) (e := e) (by
   simp only [List.getElem?_map, Option.map_eq_some_iff] at hn
   obtain ⟨p, p1, rfl⟩ := hn
   simp [encK, p1]) (by simpa using he)
  simp only [Rep, RepL]
  exact ⟨_, rfl, e.key, [e.val], rfl, s1, e.val, [], rfl, trivial, rfl⟩
/-! ### deleting -/
def delI {α : Type} (l : List (Int × α)) (n : Int) : List (Int × α) := match l with
 | [] => []
 | p :: r => if p.1 = n then r else p :: delI r n
theorem find_del_some {I : Imm} {α : Type} {k : IntKind} {enc : α → AV} (n : Int) : ∀ (l : List (Int × α)) (es : List MapEntry) (i : Nat) (a : α), EntL I (encM k enc l) es → getI l n = some a →
  ∃ j v, Instr.findNow (.int k) (.int k n) es i = some (some (i + j, v)) ∧ j < es.length ∧ EntL I (encM k enc (delI l n)) (es.eraseIdx j)
 | [], es, i, a, h, hg => by simp [getI] at hg
 | (m, b) :: r, es, i, a, h, hg => by
  simp only [encM, List.map_cons, EntL] at h
  obtain ⟨e, us, rfl, h3, h4, h5⟩ := h
  simp only [RepC] at h3
  rw [getI_cons] at hg
  by_cases hm : m = n
  ·subst hm
   refine ⟨0, e.val, by simp [Instr.findNow, Instr.sameNow, h3], by simp, ?_⟩
   simp only [delI, if_true, List.eraseIdx_cons_zero]; exact h5
  ·rw [if_neg hm] at hg
   obtain ⟨j, v, q1, q2, q3⟩ := find_del_some n r us (i + 1) a h5 hg
   refine ⟨j + 1, v, ?_, by simpa using q2, ?_⟩
   ·simp only [Instr.findNow, Instr.sameNow, h3, if_pos]
    have : (n == m) = false := by simpa using fun e => hm e.symm
    rw [this]
    simp only
    rw [q1]
    simp [Nat.add_assoc, Nat.add_comm 1]
   ·simp only [delI, hm, if_false, List.eraseIdx_cons_succ, encM, List.map_cons, EntL]
    exact ⟨e, _, rfl, by simp only [RepC]; exact h3, h4, q3⟩
theorem delI_none {α : Type} : ∀ {l : List (Int × α)} {n : Int}, getI l n = none → delI l n = l
 | [], _, _ => rfl
 | p :: r, n, h => by
  rw [getI_cons] at h
  split at h
  ·cases h
  ·rename_i hp; simp only [delI, if_neg hp, delI_none h]
theorem Born.erase {es : Array MapEntry} {clock : Nat} (h : Born es clock) (j : Nat) : Born (es.eraseIdxIfInBounds j) clock := by
 obtain ⟨h1, h2⟩ := h
 have e : (es.eraseIdxIfInBounds j).toList = es.toList.eraseIdx j := by simp
 refine ⟨?_, fun x hx => h2 x ?_⟩
 ·rw [e, ChangeMaps.map_eraseIdx]; exact h1.sublist (List.eraseIdx_sublist _ _)
 ·rw [e] at hx; exact (List.eraseIdx_sublist _ _).subset hx
theorem D.mapDelete {α : Type} {T K E d : Nat} {k : IntKind} {x y : Operand} {n : Int} (l : List (Int × α)) (enc : α → AV) (h : o.op = .call ⟨.builtin .delete, #[x, y], #[T, K]⟩) (hx : ev x = .mapv d) (hy : ev y = .int k n)
  (hd : σ.get d = some (.map K E (encM k enc l))) (hT : MapS G.P T K E k) :
  Does G o ev σ [d] [] (fun r σ' => r = .tup [] ∧ σ' = σ.set d (.map K E (encM k enc (delI l n)))) := by
 intro cx I β w ρ hw hop
 have h1 := hop x (by simp [h, Op.operands, Call.operands]); rw [hx] at h1
 have h2 := hop y (by simp [h, Op.operands, Call.operands]); rw [hy] at h2; have h2 := rep_int h2
 obtain ⟨r, es, clock, q0, q1, q2, q3, q4, q5, q6⟩ := map_handle hw hd h1
 have e1 : ∀ w, (underlying T).run G.P w = .ok (.map K E) w := fun w => by simp [underlying, program, Sem.run, hT.und]
 have e2 : ∀ w, (underlying K).run G.P w = .ok (.int k) w := fun w => by simp [underlying, program, Sem.run, hT.key]
 have e3 := run_getObjM (P := G.P) q2
 have e4 := run_checkKeyI (P := G.P) hT.key (es.isEmpty) n w
 have hset : ∀ ob : Obj, (setObj r ob).run G.P w = .ok () { w with heap := w.heap.setIfInBounds r ob } := fun ob => by simp [setObj, Sem.run, q2]
 have main : ∃ es', (execOp ρ o).run G.P w = .ok (.value (.tuple #[])) { w with heap := w.heap.setIfInBounds r (.map es' clock) } ∧ EntL I (encM k enc (delI l n)) es'.toList ∧ Born es' clock := by
  cases hg : getI l n with
  | none =>
   obtain ⟨p1, p2⟩ := findNow_none n l es.toList 0 q3 hg
   have e5 : (Instr.findKey K (.int k n) es.toList).run G.P w = .ok none w := by simp [Instr.findKey, e2, p1]
   refine ⟨es, by simp [execOp, h, resolve, invoke, builtin, Builtin.delete_, q0, h2, e1, e3, e4, e5, hset], ?_, q6⟩
   rw [delI_none hg]; exact q3
  | some a =>
   obtain ⟨j, u, p1, p2, p3⟩ := find_del_some n l es.toList 0 a q3 hg
   have e5 : (Instr.findKey K (.int k n) es.toList).run G.P w = .ok (some (0 + j, u)) w := by simp [Instr.findKey, e2, p1]
   refine ⟨es.eraseIdxIfInBounds j, by simp [execOp, h, resolve, invoke, builtin, Builtin.delete_, q0, h2, e1, e3, e4, e5, hset], ?_, q6.erase j⟩
   simpa using p3
 obtain ⟨es', hrun, hE, hB⟩ := main
 rw [hrun]
 refine ⟨.tup [], _, I, β, ⟨rfl, rfl⟩, by simp [Rep, RepL], ?_, ImmLe.refl I, fun _ _ => rfl, fun x hx => by rw [Sto.set_get, if_neg (by simpa using hx)]⟩
 have hbd : blk (β d) = some r := by rw [q1]; rfl
 refine hw.turn (d := d) (Kept.setObj w r _) q5 (fun x hx => by rw [Sto.set_get, if_neg hx]) (fun x hx hs e => hw.sepB x d hs (by rw [hd]; rfl) hx r e (mem_blks hbd)) (ImmLe.refl I) (fun _ _ _ => rfl)
  (fun o v hv => by rw [q4 o] at hv; cases hv) (q4 none) (fun _ _ => rfl) (.inr rfl) (HLe.refl β) (.inl hbd) fun ob hob => ?_
 rw [Sto.set_get, if_pos rfl, hd] at hob
 injection hob with hob
 subst hob
 simp only [ObjRep]
 exact .inr ⟨r, es', clock, q1, by have := lt_of_some q2; simp [Array.getElem?_setIfInBounds, this], hE, q4, q5, hB⟩
/-! ### the loop -/
theorem A.know {c : Code} {Q : Exit → Env → Sto → Prop} {env : Env} {F : Prop} (h : ∀ cx I β a w, RelW G cx I β σ w → RelT I β env a → F) (k : F → acode G c Q env σ) : acode G c Q env σ :=
 acode.of fun cx a w hr => by
  obtain ⟨I, β, h1, h2, h3, h4⟩ := hr
  exact (k (h cx I β a w h1 h2)).use cx a w ⟨I, β, h1, h2, h3, h4⟩
def sel {α : Type} (l : List (Int × α)) (p : List Nat) : List (Int × α) := p.filterMap fun i => l[i]?
theorem sel_range {α : Type} (l : List (Int × α)) : sel l (List.range l.length) = l := by
 have : ∀ (n : Nat), n ≤ l.length → sel l (List.range n) = l.take n := by
  intro n
  induction n with
  | zero => intro _; simp [sel]
  | succ n ih =>
   intro hn
   rw [List.range_succ]
   simp only [sel, List.filterMap_append, List.filterMap_cons, List.filterMap_nil] at ih ⊢
   rw [ih (by omega), List.getElem?_eq_getElem (by omega)]
   simp only
   rw [List.take_succ, List.getElem?_eq_getElem (by omega)]
   rfl
 rw [this _ (Nat.le_refl _), List.take_length]
theorem perm_range {p : List Nat} {n : Nat} (h1 : p.Nodup) (h2 : ∀ i, i ∈ p ↔ i < n) : p.Perm (List.range n) :=
 (List.perm_ext_iff_of_nodup h1 List.nodup_range).2 fun i => by rw [List.mem_range]; exact h2 i
theorem A.rng {S α : Type} {env : Env} {Q : Exit → Env → Sto → Prop} {l : List (Int × α)} {B : Int → α → S → Option S} {g0 r : S} (hm : forMap l B g0 = some r) {id b t1 t2 it dm di clock : Nat} {es : Array MapEntry} {o1 o2 : Oper} {y : Code}
  (inv : S → Prop) (envOf : S → Env) (stOf : Array Nat → S → Sto) (ho1 : o1.op = .next (.tmp it) false ∧ o1.dst = some t1 ∧ o1.guard = none) (ho2 : o2.op = .extract (.tmp t1) 0 ∧ o2.dst = some t2 ∧ o2.guard = none) (hd : dstOk G.N #[o1, o2] = true)
  (h0 : inv g0) (hinv : ∀ n v g g', B n v g = some g' → inv g → inv g') (hit : ∀ g, (envOf g).get it = .ptr di 0) (hsi : ∀ seen g, (stOf seen g).get di = some (.iter dm clock clock seen)) (hsl : ∀ seen g, ∃ om, (stOf seen g).get dm = some om ∧ om.lie = some (es, clock))
  (hset : ∀ seen g s', (stOf seen g).set di (.iter dm clock clock s') = stOf s' g) (hlen : ∀ seen g, inv g → ∀ cx I β w, RelW G cx I β (stOf seen g) w → β dm ≠ .nilFunc → es.size = l.length)
  (hw : Weak G env σ (envOf g0) (stOf #[] g0))
  (body : ∀ (seen : Array Nat) (e : MapEntry) (i : Nat) (n : Int) (v : α) (g g' : S), es[i]? = some e → l[i]? = some (n, v) → inv g → B n v g = some g' →
   acode G y (thenA (fun env' σ' => Weak G env' σ' (envOf g') (stOf (seen.push e.born) g')) Q) ((t2, .bool true) :: (t1, .tup [.bool true, .junk, .junk]) :: envOf g) (stOf (seen.push e.born) g))
  (out : ∀ seen, Q (.exit b) ((t2, .bool false) :: (t1, .tup [.bool false]) :: envOf r) (stOf seen r)) :
  acode G (.loop (.seq (.region id #[o1, o2] false) (.seq (.cond (.tmp t2) .skip (.exit b)) y))) Q env σ := by
 obtain ⟨m1, m2⟩ := forMap_some hm
 refine A.loop (α := Array Nat × S) (fun s => envOf s.2) (fun s => stOf s.1 s.2) (fun s => inv s.2 ∧ ∃ p : List Nat, p.Nodup ∧ (∀ i ∈ p, i < l.length) ∧ (∀ (i : Nat) (e : MapEntry), es[i]? = some e → (s.1.contains e.born = true ↔ i ∈ p)) ∧ foldB B (sel l p) g0 = some s.2)
  (fun s => (leftOf es s.1).size) (#[], g0) ⟨h0, [], List.nodup_nil, by simp, by simp, rfl⟩ hw ?_
 rintro ⟨seen, g⟩ ⟨hi, p, p1, p2, p3, p4⟩
 refine A.know (F := es.size = l.length ∧ (es.toList.map (·.born)).Nodup) (fun cx I β a w hW hT => ?_) fun ⟨f1, f2⟩ => ?_
 ·have h1 := hT it
  rw [show (envOf (seen, g).2).get it = .ptr di 0 from hit g] at h1
  simp only [Rep] at h1
  obtain ⟨b, h1, _⟩ := h1
  have hin : β di ≠ .nilFunc := fun e => by rw [e] at h1; cases h1
  have ho := hW.objs di _ (hsi seen g)
  simp only [ObjRep, hin, false_or] at ho
  obtain ⟨r, bm, q1, q2, _⟩ := ho
  have hdn : β dm ≠ .nilFunc := fun e => by rw [e] at q2; cases q2
  obtain ⟨om, s1, s2⟩ := hsl seen g
  obtain ⟨_, _, _, s3⟩ := lie_at hW s1 s2 hdn
  exact ⟨hlen seen g hi cx I β w hW hdn, s3.1⟩
 obtain ⟨om, s1, s2⟩ := hsl seen g
 have h21 : Env.get ((t2, .bool true) :: (t1, .tup [.bool true, .junk, .junk]) :: envOf g) t2 = .bool true := by rw [Env.get_cons, if_pos rfl]
 have h20 : Env.get ((t2, .bool false) :: (t1, .tup [.bool false]) :: envOf g) t2 = .bool false := by rw [Env.get_cons, if_pos rfl]
 refine A.seq (A.region hd ?_)
 show Cert G #[o1, o2] ⟨false, [], []⟩ [] [0, 1] (envOf g) (stOf seen g) _
 refine ⟨o1, rfl, .inr (.inr (.inl ⟨by simp only [Want, ho1.2.2], by simp, [di], [], _, D.next (x := .tmp it) ho1.1 (hit g) (hsi seen g) s1 s2, by simp, Env.clean_none _, by simp, fun av σ' hav => ?_⟩))⟩
 have ext : ∀ (vs : List AV) (bb : Bool) (σ' : Sto) (K : Env → Sto → Prop), vs[0]? = some (.bool bb) → K ((t2, .bool bb) :: (t1, .tup vs) :: envOf g) σ' → Cert G #[o1, o2] ⟨false, [], []⟩ [] [1] ((envOf g).put o1.dst (.tup vs)) σ' K := fun vs bb σ' K hv hK => by
  refine ⟨o2, rfl, .inr (.inl ⟨by simp only [Want, ho2.2.2], by simp, [], [], .bool bb, σ', Virt.none _ _ _, by simp, by simp, Y.extract (x := .tmp t1) ho2.1 (by rw [ho1.2.1]; show Env.get _ _ = _; rw [Env.put, Env.get_cons, if_pos rfl]) hv, ?_⟩)⟩
  rw [ho1.2.1, ho2.2.1]
  exact hK
 rcases hav with ⟨u1, rfl, rfl⟩ | ⟨e, u1, rfl, rfl⟩
 ·refine ext _ false _ _ rfl ?_
  -- all are seen: the tale is r
  have hall : ∀ i, i ∈ p ↔ i < l.length := fun i => ⟨p2 i, fun hlt => by
   have hlt' : i < es.size := by omega
   refine (p3 i es[i] (Array.getElem?_eq_getElem hlt')).1 ?_
   by_cases hc : seen.contains es[i].born = true
   ·exact hc
   ·exfalso
    have : es[i] ∈ leftOf es seen := by
     unfold leftOf
     rw [Array.mem_filter]
     exact ⟨Array.getElem_mem hlt', by simpa using hc⟩
    have : leftOf es seen ≠ #[] := fun e => by rw [e] at this; simp at this
    exact this (Array.eq_empty_of_size_eq_zero u1)⟩
  have hp : (sel l p).Perm l := by
   have := (perm_range p1 hall).filterMap fun i => l[i]?
   have e2 := sel_range l
   unfold sel at e2 ⊢
   rwa [e2] at this
  have hg : g = r := by
   have := m1 _ hp
   rw [m2, p4] at this
   exact Option.some.inj this
  subst hg
  refine A.seq (A.cond (b := false) h20 (fun h => by cases h) fun _ => A.exit ?_)
  exact out seen
 ·refine ext _ true _ _ rfl ?_
  rw [hset seen g]
  obtain ⟨v1, v2⟩ := mem_left u1
  obtain ⟨i, hi1⟩ := List.getElem?_of_mem v1
  have hi1 : es[i]? = some e := by simpa using hi1
  have hil : i < l.length := by have := (Array.getElem?_eq_some_iff.1 hi1).1; omega
  have hip : i ∉ p := fun h => by
   have := (p3 i e hi1).2 h
   rw [v2] at this; cases this
  have hli : l[i]? = some (l[i].1, l[i].2) := List.getElem?_eq_getElem hil
  have hnd : (p ++ [i]).Nodup := by
   rw [List.nodup_append]
   exact ⟨p1, by simp, fun a ha c hc => by simp only [List.mem_singleton] at hc; subst hc; exact fun e => hip (e ▸ ha)⟩
  have hlt2 : ∀ j ∈ p ++ [i], j < l.length := fun j hj => by
   rcases List.mem_append.1 hj with hj | hj
   ·exact p2 j hj
   ·rw [List.mem_singleton.1 hj]; exact hil
  -- what comes of this round
  have hg' : ∃ g', B l[i].1 l[i].2 g = some g' ∧ foldB B (sel l (p ++ [i])) g0 = some g' := by
   have e1 : sel l (p ++ [i]) = sel l p ++ [(l[i].1, l[i].2)] := by
    unfold sel
    rw [List.filterMap_append]
    simp [List.filterMap_cons, List.getElem?_eq_getElem hil]
   have e2 : foldB B (sel l (p ++ [i])) g0 = B l[i].1 l[i].2 g := by
    rw [e1, foldB_append, p4]
    simp only [Option.bind_some, foldB]
    cases B l[i].1 l[i].2 g <;> rfl
   have full : (p ++ [i] ++ (List.range l.length).filter fun j => !(p ++ [i]).contains j).Perm (List.range l.length) := by
    refine perm_range ?_ fun j => ?_
    ·rw [List.nodup_append]
     refine ⟨hnd, List.nodup_range.filter _, fun a ha c hc e => ?_⟩
     subst e
     have := (List.mem_filter.1 hc).2
     simp only [Bool.not_eq_true', List.contains_eq_mem, decide_eq_false_iff_not] at this
     exact this ha
    ·rw [List.mem_append, List.mem_filter, List.mem_range]
     constructor
     ·rintro (h | h)
      ·exact hlt2 j h
      ·exact h.1
     ·intro h
      by_cases hj : j ∈ p ++ [i]
      ·exact .inl hj
      ·exact .inr ⟨h, by simpa using hj⟩
   have hp2 := full.filterMap fun i => l[i]?
   have e3 := sel_range l
   unfold sel at e3
   rw [e3, List.filterMap_append] at hp2
   have h3 := m1 _ hp2
   rw [m2, foldB_append] at h3
   cases hf : foldB B (sel l (p ++ [i])) g0 with
   | none => unfold sel at hf; rw [hf] at h3; cases h3
   | some g' => exact ⟨g', by rw [← e2]; exact hf, rfl⟩
  obtain ⟨g', w1, w2⟩ := hg'
  refine A.seq (A.cond (b := true) h21 (fun _ => A.skip ?_) fun h => by cases h)
  refine (body seen e i l[i].1 l[i].2 g g' hi1 hli hi w1).mono fun ex env' σ' hq => ?_
  cases ex with
  | normal =>
   refine ⟨(seen.push e.born, g'), ⟨hinv _ _ _ _ w1 hi, p ++ [i], hnd, hlt2, fun j e' hj => ?_, w2⟩, left_shrinks es seen e u1, hq⟩
   rw [contains_push, Bool.or_eq_true, beq_iff_eq, p3 j e' hj, List.mem_append, List.mem_singleton]
   constructor
   ·rintro (h | h)
    ·exact .inl h
    ·right
     have hj' : es.toList[j]? = some e' := by simpa using hj
     have hi' : es.toList[i]? = some e := by simpa using hi1
     have hjl := (List.getElem?_eq_some_iff.1 hj').1
     have hilt := (List.getElem?_eq_some_iff.1 hi').1
     have g1 := (List.getElem?_eq_some_iff.1 hj').2
     have g2 := (List.getElem?_eq_some_iff.1 hi').2
     have pw := List.pairwise_iff_getElem.1 f2
     rcases Nat.lt_trichotomy j i with q | q | q
     ·refine absurd ?_ (pw j i (by simpa using hjl) (by simpa using hilt) q)
      rw [List.getElem_map, List.getElem_map, g1, g2, h]
     ·exact q
     ·refine absurd ?_ (pw i j (by simpa using hilt) (by simpa using hjl) q)
      rw [List.getElem_map, List.getElem_map, g1, g2, h]
   ·rintro (h | h)
    ·exact .inl h
    ·subst h
     rw [hj] at hi1; cases hi1; exact .inr rfl
  | exit id => exact hq
  | goto l => exact hq
  | ret => exact hq
  | panic c => exact hq
  | outgrown => exact hq
end
end Go.Proofs.Ytflifgcoleknlaa

/- Steps on maps of rows, on maps that no longer turn or are ranged over. No condition but those that stand in each. -/
namespace Go.Proofs.Ytflifgcoleknlaa
set_option linter.all false
open Go
def vL {α : Type} (e : En α) (l : List α) : AV := .lst false (ml e l)
theorem zL {α : Type} (e : En α) (I : Imm) : RepC I (vL e []) (.slice none 0 0) := by
 simp only [vL, ml, List.map_nil, RepC]
 exact ⟨none, 0, rfl, by simp, by simp [maxLen], by simp, .inl trivial⟩
theorem zSl {P : Program} {E : Nat} {α : Type} (e : En α) (h : ∀ w, (zeroValue E).run P w = .ok (.slice none 0 0) w) : ∀ w, ∃ v, (zeroValue E).run P w = .ok v w ∧ ∀ I, RepC I (vL e []) v := fun w => ⟨_, h w, zL e⟩
theorem zI {P : Program} {E : Nat} {k : IntKind} (h : ∀ w, (zeroValue E).run P w = .ok (.int k 0) w) : ∀ w, ∃ v, (zeroValue E).run P w = .ok v w ∧ ∀ I, RepC I (vI k 0) v := fun w => ⟨_, h w, fun I => by simp [vI, RepC]⟩
section
variable {P : Program}
/-- a row taken -/
def tkF {α : Type} (T0 K0 E0 T' sz e2 t : Nat) (k : IntKind) (l : List (Int × List α)) (n : Int) (enc : α → List AV) (ids : List Nat) (op : Op) (env : Env) (σ : Sto) : Option (Stp × Obs) := match op with
 | .lookup T x y false => (match env.evo x with
  | some (.mapv d) => (match env.evo y with
   | some (.int k' n') => (match σ.get d with
    | some (.outM K E e keys none fx) => (match σ.get e with
     | some (.bun els) => bif Nat.beq T T0 && Nat.beq K K0 && Nat.beq E E0 && (σ.get t).isNone && (σ.get e2).isNone && !Nat.beq t e2 && !ids.contains t && !ids.contains e2 && σ.clean [t, e2].contains then
       some (.e [d, e, e2, t] [t, e2] (.own t) ((t, .slice T' sz (((getI l n).getD []).map enc) 0 false) :: (e2, .bun (encB T' sz enc (holI l n))) :: (d, .outM K E e2 (encK k l) (holeI l n t) fx) :: σ.minus [d, e]), ([.int k' n', .agg keys], [(1, .bun els)])) else none
     | _ => none)
    | _ => none)
   | _ => none)
  | _ => none)
 | _ => none
theorem tkF_ok {α : Type} {T0 K0 E0 T' sz e2 t : Nat} {k : IntKind} {l : List (Int × List α)} {n : Int} {enc : α → List AV} (hT : MapS P T0 K0 E0 k) (hz : ∀ w, (zeroValue E0).run P w = .ok (.slice none 0 0) w) {o : Oper} {N : Nat} {ids : List Nat} {env : Env} {σ : Sto} {s : Stp} {ob : Obs}
  (h : tkF T0 K0 E0 T' sz e2 t k l n enc ids o.op env σ = some (s, ob)) (he : ob = ([.int k n, .agg (encK k l)], [(1, .bun (encB T' sz enc l))])) : StOk ⟨P, N, ids⟩ o env σ s := by
 cases ho : o.op <;> rw [ho] at h
 case lookup T x y ok =>
  cases ok with
  | true => cases h
  | false =>
   simp only [tkF] at h
   split at h
   ·rename_i d hx
    split at h
    ·rename_i k' n' hy
     split at h
     ·rename_i K E e keys fx hd
      split at h
      ·rename_i els hb
       generalize hc : (Nat.beq T T0 && _ && _ && _ && _ && _ && _ && _ && _) = bb at h
       cases bb with
       | false => cases h
       | true =>
        simp only [Bool.and_eq_true, Bool.not_eq_true'] at hc
        obtain ⟨⟨⟨⟨⟨⟨⟨⟨c1, c2⟩, c3⟩, c4⟩, c5⟩, c6⟩, c7⟩, c8⟩, c9⟩ := hc
        have := Nat.eq_of_beq_eq_true c1
        subst this
        have := Nat.eq_of_beq_eq_true c2
        subst this
        have := Nat.eq_of_beq_eq_true c3
        subst this
        cases h
        simp only [Prod.mk.injEq, List.cons.injEq, AV.int.injEq, AV.agg.injEq, AObj.bun.injEq, and_true, true_and] at he
        obtain ⟨⟨⟨rfl, rfl⟩, rfl⟩, rfl⟩ := he
        refine ⟨D.takeM l enc ho (Env.evo_ev hx) (Env.evo_ev hy) hd hb hT hz (by simpa using c4) (by simpa using c5) (fun e => ?_) c7 c8 c9, ?_⟩
        ·subst e; rw [Nat.beq_refl] at c6; cases c6
        ·simp only [List.all_cons, List.all_nil, c7, c8]; rfl
      ·cases h
     ·cases h
    ·cases h
   ·cases h
 all_goals (simp only [tkF] at h; cases h)
def htk {α : Type} {T0 K0 E0 : Nat} {k : IntKind} (T' sz e2 t : Nat) (l : List (Int × List α)) (n : Int) (enc : α → List AV) (hT : MapS P T0 K0 E0 k) (hz : ∀ w, (zeroValue E0).run P w = .ok (.slice none 0 0) w) : Hint P :=
 .gs true ([.int k n, .agg (encK k l)], [(1, .bun (encB T' sz enc l))]) (tkF T0 K0 E0 T' sz e2 t k l n enc) fun _ _ _ _ _ _ _ h he => tkF_ok hT hz h he
/-- a row stored -/
def rowE (env : Env) (σ : Sto) (T' sz : Nat) (z : Operand) : Option (List Nat × List (List AV)) := match env.evo z with
 | some .nils => some ([], [])
 | some (.own j) => (match σ.get j with
  | some (.slice T2 sz2 xs 0 _) => bif Nat.beq T2 T' && Nat.beq sz2 sz then some ([j], xs) else none
  | _ => none)
 | _ => none
def ptP {α : Type} (T0 K0 E0 T' sz e2 : Nat) (k : IntKind) (l' : List (Int × List α)) (enc : α → List AV) (ids : List Nat) (T : Nat) (x y z : Operand) (env : Env) (σ : Sto) : Option (Stp × Obs × Option (Option Nat × Nat)) := match env.evo x with
  | some (.mapv d) => (match env.evo y with
   | some (.int k' n') => (match σ.get d with
    | some (.outM K E e keys hole fx) => (match σ.get e with
     | some (.bun els) => (match rowE env σ T' sz z with
      | some (M0, xs) => bif Nat.beq T T0 && Nat.beq K K0 && Nat.beq E E0 && (σ.get e2).isNone && !ids.contains e2 && σ.clean [e2].contains then
       some (.e (d :: e :: e2 :: M0) [e2] .undef ((e2, .bun (encB T' sz enc l')) :: (d, .outM K E e2 (encK k l') none none) :: σ.minus (d :: e :: M0)), ([.int k' n', .agg keys, .lst false xs], [(1, .bun els)]), hole) else none
      | none => none)
     | _ => none)
    | _ => none)
   | _ => none)
  | _ => none
theorem ptP_ok {α : Type} {T0 K0 E0 T' sz e2 : Nat} {k : IntKind} {ks : List AV} {l l' : List (Int × List α)} {n : Int} {enc : α → List AV} {row : List α} (hT : MapS P T0 K0 E0 k) {o : Oper} {N : Nat} {ids : List Nat} {env : Env} {σ : Sto} {s : Stp} {ob : Obs} {hole : Option (Option Nat × Nat)} {T : Nat} {x y z : Operand}
  (ho : o.op = .mapUpdate T x y z ∨ o.op = .insert T x y z) (h : ptP T0 K0 E0 T' sz e2 k l' enc ids T x y z env σ = some (s, ob, hole)) (he : ob = ([.int k n, .agg ks, .lst false (row.map enc)], [(1, .bun (encB T' sz enc l))])) (hks : encK k l = ks) (hl' : setI l n row = l') (hh : hole = none ∨ ∃ t, hole = holeI l n t) (hrow : row.map enc = [] → row = []) : StOk ⟨P, N, ids⟩ o env σ s := by
 subst hks hl'
 simp only [ptP] at h
 split at h
 ·rename_i d hx
  split at h
  ·rename_i k' n' hy
   split at h
   ·rename_i K E e keys hole' fx hd
    split at h
    ·rename_i els hb
     split at h
     ·rename_i M0 xs hr
      generalize hc : (Nat.beq T T0 && _ && _ && _ && _ && _) = bb at h
      cases bb with
      | false => cases h
      | true =>
       simp only [Bool.and_eq_true, Bool.not_eq_true'] at hc
       obtain ⟨⟨⟨⟨⟨c1, c2⟩, c3⟩, c4⟩, c5⟩, c6⟩ := hc
       have := Nat.eq_of_beq_eq_true c1
       subst this
       have := Nat.eq_of_beq_eq_true c2
       subst this
       have := Nat.eq_of_beq_eq_true c3
       subst this
       cases h
       simp only [Prod.mk.injEq, List.cons.injEq, AV.int.injEq, AV.agg.injEq, AV.lst.injEq, AObj.bun.injEq, and_true, true_and] at he
       obtain ⟨⟨⟨rfl, rfl⟩, rfl, rfl⟩, rfl⟩ := he
       simp only [rowE] at hr
       split at hr
       ·rename_i hz
        simp only [Option.some.injEq, Prod.mk.injEq] at hr
        obtain ⟨rfl, hr⟩ := hr
        exact ⟨D.putM (fz := false) [] l enc row ho (Env.evo_ev hx) (Env.evo_ev hy) (.inl ⟨Env.evo_ev hz, hrow hr.symm, rfl⟩) hd hh hb hT (by simpa using c4) c5 c6, by simp only [List.all_cons, List.all_nil, c5]; rfl⟩
       ·rename_i j hz
        split at hr
        ·rename_i T2 sz2 xs' fz hj
         cases hq : (Nat.beq T2 T' && Nat.beq sz2 sz) with
         | false => rw [hq] at hr; cases hr
         | true =>
          rw [hq] at hr
          simp only [cond_true, Option.some.injEq, Prod.mk.injEq] at hr
          obtain ⟨rfl, rfl⟩ := hr
          simp only [Bool.and_eq_true] at hq
          have := Nat.eq_of_beq_eq_true hq.1
          subst this
          have := Nat.eq_of_beq_eq_true hq.2
          subst this
          exact ⟨D.putM (fz := fz) [j] l enc row ho (Env.evo_ev hx) (Env.evo_ev hy) (.inr ⟨j, Env.evo_ev hz, hj, rfl⟩) hd hh hb hT (by simpa using c4) c5 c6, by simp only [List.all_cons, List.all_nil, c5]; rfl⟩
        ·cases hr
       ·cases hr
     ·cases h
    ·cases h
   ·cases h
  ·cases h
 ·cases h
def encH : Option (Option Nat × Nat) → AV
 | none => .junk
 | some (none, t) => .own t
 | some (some i, t) => .ptr t i
theorem encH_inj : ∀ {a b : Option (Option Nat × Nat)}, encH a = encH b → a = b
 | none, none, _ => rfl
 | some (none, t), some (none, u), h => by simp only [encH, AV.own.injEq] at h; rw [h]
 | some (some i, t), some (some j, u), h => by simp only [encH, AV.ptr.injEq] at h; rw [h.1, h.2]
 | none, some (none, _), h | none, some (some _, _), h | some (none, _), none, h | some (some _, _), none, h | some (none, _), some (some _, _), h | some (some _, _), some (none, _), h => by simp [encH] at h
def ptF {α : Type} (T0 K0 E0 T' sz e2 : Nat) (k : IntKind) (l' : List (Int × List α)) (enc : α → List AV) (ids : List Nat) (op : Op) (env : Env) (σ : Sto) : Option (Stp × Obs) := match op with
 | .mapUpdate T x y z => (match ptP T0 K0 E0 T' sz e2 k l' enc ids T x y z env σ with | some (s, ob, hole) => some (s, (encH hole :: ob.1, ob.2)) | none => none)
 | .insert T x y z => (match ptP T0 K0 E0 T' sz e2 k l' enc ids T x y z env σ with | some (s, ob, hole) => some (s, (encH hole :: ob.1, ob.2)) | none => none)
 | _ => none
theorem ptF_ok {α : Type} {T0 K0 E0 T' sz e2 : Nat} {k : IntKind} {ks : List AV} {l l' : List (Int × List α)} {n : Int} {enc : α → List AV} {row : List α} {hv : Option (Option Nat × Nat)} (hT : MapS P T0 K0 E0 k) (hks : encK k l = ks) (hl' : setI l n row = l') (hh : hv = none ∨ ∃ t, hv = holeI l n t) {o : Oper} {N : Nat} {ids : List Nat} {env : Env} {σ : Sto} {s : Stp} {ob : Obs}
  (h : ptF T0 K0 E0 T' sz e2 k l' enc ids o.op env σ = some (s, ob)) (he : ob = ([encH hv, .int k n, .agg ks, .lst false (row.map enc)], [(1, .bun (encB T' sz enc l))])) : StOk ⟨P, N, ids⟩ o env σ s := by
 have hrow : row.map enc = [] → row = [] := fun h => List.map_eq_nil_iff.1 h
 have key : ∀ {T : Nat} {x y z : Operand} (hole : Option (Option Nat × Nat)) (ob' : Obs), (o.op = .mapUpdate T x y z ∨ o.op = .insert T x y z) → ptP T0 K0 E0 T' sz e2 k l' enc ids T x y z env σ = some (s, ob', hole) → ob = (encH hole :: ob'.1, ob'.2) → StOk ⟨P, N, ids⟩ o env σ s := by
  intro T x y z hole ob' ho h2 h3
  rw [h3] at he
  simp only [Prod.mk.injEq, List.cons.injEq] at he
  obtain ⟨⟨e1, e2'⟩, e3⟩ := he
  refine ptP_ok hT ho h2 (Prod.ext e2' e3) hks hl' ?_ hrow
  rw [encH_inj e1]; exact hh
 cases ho : o.op <;> rw [ho] at h
 case mapUpdate T x y z =>
  simp only [ptF] at h
  split at h
  ·rename_i s' ob' hole h2; cases h; exact key hole ob' (.inl ho) h2 rfl
  ·cases h
 case insert T x y z =>
  simp only [ptF] at h
  split at h
  ·rename_i s' ob' hole h2; cases h; exact key hole ob' (.inr ho) h2 rfl
  ·cases h
 all_goals (simp only [ptF] at h; cases h)
def hpm {α : Type} {T0 K0 E0 : Nat} {k : IntKind} (T' sz e2 : Nat) (l : List (Int × List α)) (n : Int) (enc : α → List AV) (row : List α) (hT : MapS P T0 K0 E0 k) : Hint P :=
 .gs true ([encH none, .int k n, .agg (encK k l), .lst false (row.map enc)], [(1, .bun (encB T' sz enc l))]) (ptF T0 K0 E0 T' sz e2 k (setI l n row) enc) fun _ _ _ _ _ _ _ h he => ptF_ok hT rfl rfl (.inl rfl) h he
/-- .. where it had been taken -/
def hpmT {α : Type} {T0 K0 E0 : Nat} {k : IntKind} (T' sz e2 : Nat) (l : List (Int × List α)) (n : Int) (enc : α → List AV) (row : List α) (t : Nat) (hT : MapS P T0 K0 E0 k) : Hint P :=
 .gs true ([encH (holeI l n t), .int k n, .agg (encK k l), .lst false (row.map enc)], [(1, .bun (encB T' sz enc (holI l n)))]) (ptF T0 K0 E0 T' sz e2 k (setI l n row) enc) fun _ _ _ _ _ _ _ h he => ptF_ok hT (holI_keys k l n) (holI_set l n row) (.inr ⟨t, (holI_hole l n t).symm⟩) h he
/-- a lookup in a map that no longer turns, or is ranged over -/
def lfF {α : Type} (T0 : Nat) (k : IntKind) (l : List (Int × α)) (n : Int) (enc : α → AV) (z : α) (op : Op) (env : Env) (σ : Sto) : Option (Stp × Obs) := match op with
 | .lookup T x y ok => (match env.evo x with
  | some (.mpf ents) => (match env.evo y with
   | some (.int k' n') => bif Nat.beq T T0 then some (.y [] (bif ok then .tup [enc ((getI l n).getD z), .bool (getI l n).isSome] else enc ((getI l n).getD z)), ([.mpf ents, .int k' n'], [])) else none
   | _ => none)
  | some (.mapv d) => (match env.evo y with
   | some (.int k' n') => (match σ.get d with
    | some (.mapx es clock K E ents) => bif Nat.beq T T0 then some (.y [d] (bif ok then .tup [enc ((getI l n).getD z), .bool (getI l n).isSome] else enc ((getI l n).getD z)), ([.mpf ents, .int k' n'], [])) else none
    | _ => none)
   | _ => none)
  | _ => none)
 | _ => none
theorem Y.lookupX' {G : Gl} {o : Oper} {ev : Operand → AV} {σ : Sto} {α : Type} {T K E K' E' d : Nat} {es : Array MapEntry} {clock : Nat} {k : IntKind} {x y : Operand} {ok : Bool} {n : Int} (l : List (Int × α)) (enc : α → AV) (z : α) (h : o.op = .lookup T x y ok) (hx : ev x = .mapv d) (hy : ev y = .int k n) (hd : σ.get d = some (.mapx es clock K' E' (encM k enc l)))
  (hT : MapS G.P T K E k) (hz : ∀ w, ∃ v, (zeroValue E).run G.P w = .ok v w ∧ ∀ I, RepC I (enc z) v) :
  Yields G o ev σ [] [d] (bif ok then .tup [enc ((getI l n).getD z), .bool (getI l n).isSome] else enc ((getI l n).getD z)) :=
 .pure fun σ' cx I β w ρ hR hw hop => by
  have h1 := hop x (by simp [h, Op.operands]); rw [hx] at h1
  have h2 := hop y (by simp [h, Op.operands]); rw [hy] at h2; have h2 := rep_int h2
  exact lookup_run l enc z h (mapVal_x hw (by rw [hR d (by simp)]; exact hd) h1) h2 hT hz
theorem lfF_ok {α : Type} {T0 K0 E0 : Nat} {k : IntKind} {l : List (Int × α)} {n : Int} {enc : α → AV} {z : α} (hT : MapS P T0 K0 E0 k) (hz : ∀ w, ∃ v, (zeroValue E0).run P w = .ok v w ∧ ∀ I, RepC I (enc z) v) {o : Oper} {N : Nat} {ids : List Nat} {env : Env} {σ : Sto} {s : Stp} {ob : Obs}
  (h : lfF T0 k l n enc z o.op env σ = some (s, ob)) (he : ob = ([.mpf (encM k enc l), .int k n], [])) : StOk ⟨P, N, ids⟩ o env σ s := by
 cases ho : o.op <;> rw [ho] at h
 case lookup T x y ok =>
  simp only [lfF] at h
  split at h
  ·rename_i ents hx
   split at h
   ·rename_i k' n' hy
    cases hb : Nat.beq T T0 with
    | false => rw [hb] at h; cases h
    | true =>
     rw [hb] at h
     have := Nat.eq_of_beq_eq_true hb
     subst this
     cases h
     simp only [Prod.mk.injEq, List.cons.injEq, AV.int.injEq, AV.mpf.injEq, and_true] at he
     obtain ⟨rfl, rfl, rfl⟩ := he
     exact Y.lookupF l enc z ho (Env.evo_ev hx) (Env.evo_ev hy) hT hz
   ·cases h
  ·rename_i d hx
   split at h
   ·rename_i k' n' hy
    split at h
    ·rename_i es clock K E ents hd
     cases hb : Nat.beq T T0 with
     | false => rw [hb] at h; cases h
     | true =>
      rw [hb] at h
      have := Nat.eq_of_beq_eq_true hb
      subst this
      cases h
      simp only [Prod.mk.injEq, List.cons.injEq, AV.int.injEq, AV.mpf.injEq, and_true] at he
      obtain ⟨rfl, rfl, rfl⟩ := he
      exact Y.lookupX' l enc z ho (Env.evo_ev hx) (Env.evo_ev hy) hd hT hz
    ·cases h
   ·cases h
  ·cases h
 all_goals (simp only [lfF] at h; cases h)
def hlf {α : Type} {T0 K0 E0 : Nat} {k : IntKind} (l : List (Int × α)) (n : Int) (enc : α → AV) (z : α) (hT : MapS P T0 K0 E0 k) (hz : ∀ w, ∃ v, (zeroValue E0).run P w = .ok v w ∧ ∀ I, RepC I (enc z) v) : Hint P :=
 .gs false ([.mpf (encM k enc l), .int k n], []) (fun _ => lfF T0 k l n enc z) fun _ _ _ _ _ _ _ h he => lfF_ok hT hz h he
/-- the length of a map that no longer turns -/
def nfF (T0 : Nat) (n : Int) (op : Op) (env : Env) (_ : Sto) : Option (Stp × Obs) := match op with
 | .call c => (match c.callee with
  | .builtin b => (match b with
   | .len => (match c.args.toList with
    | [x] => (match c.argTypes.toList with
     | [T] => (match env.evo x with
      | some (.mpf ents) => bif Nat.beq T T0 then some (.y [] (.int .i64 n), ([.mpf ents], [])) else none
      | _ => none)
     | _ => none)
    | _ => none)
   | _ => none)
  | _ => none)
 | _ => none
theorem nfF_ok {α : Type} {T0 K0 E0 : Nat} {k : IntKind} {l : List (Int × α)} {enc : α → AV} (hT : MapS P T0 K0 E0 k) {o : Oper} {N : Nat} {ids : List Nat} {env : Env} {σ : Sto} {s : Stp} {ob : Obs}
  (h : nfF T0 (l.length : Int) o.op env σ = some (s, ob)) (he : ob = ([.mpf (encM k enc l)], [])) : StOk ⟨P, N, ids⟩ o env σ s := by
 cases ho : o.op <;> rw [ho] at h
 case call c =>
  obtain ⟨cl, args, tys⟩ := c
  simp only [nfF] at h
  split at h
  ·rename_i b
   split at h
   ·split at h
    ·rename_i x hargs
     have : args = #[x] := Array.toList_inj.1 (by simpa using hargs)
     subst this
     split at h
     ·rename_i T htys
      have : tys = #[T] := Array.toList_inj.1 (by simpa using htys)
      subst this
      split at h
      ·rename_i ents hx
       cases hb : Nat.beq T T0 with
       | false => rw [hb] at h; cases h
       | true =>
        rw [hb] at h
        have := Nat.eq_of_beq_eq_true hb
        subst this
        cases h
        simp only [Prod.mk.injEq, List.cons.injEq, AV.mpf.injEq, and_true] at he
        subst he
        exact Y.lenMF l enc ho rfl (Env.evo_ev hx) hT.und
      ·cases h
     ·cases h
    ·cases h
   ·cases h
  ·cases h
 all_goals (simp only [nfF] at h; cases h)
def hnf {α : Type} {T0 K0 E0 : Nat} {k : IntKind} (l : List (Int × α)) (enc : α → AV) (hT : MapS P T0 K0 E0 k) : Hint P :=
 .gs false ([.mpf (encM k enc l)], []) (fun _ => nfF T0 (l.length : Int)) fun _ _ _ _ _ _ _ h he => nfF_ok (l := l) (enc := enc) hT h he
/-- an entry deleted -/
def deF {α : Type} (T0 K0 : Nat) (k : IntKind) (l : List (Int × α)) (n : Int) (enc : α → AV) (op : Op) (env : Env) (σ : Sto) : Option (Stp × Obs) := match op with
 | .call c => (match c.callee with
  | .builtin b => (match b with
   | .delete => (match c.args.toList with
    | [x, y] => (match c.argTypes.toList with
     | [T, K] => (match env.evo x with
      | some (.mapv d) => (match env.evo y with
       | some (.int k' n') => (match σ.get d with
        | some (.map K' E ents) => bif Nat.beq T T0 && Nat.beq K K0 && Nat.beq K' K0 then some (.e [d] [] (.tup []) (σ.set d (.map K' E (encM k enc (delI l n)))), ([.mpf ents, .int k' n'], [(0, .cells E [])])) else none
        | _ => none)
       | _ => none)
      | _ => none)
     | _ => none)
    | _ => none)
   | _ => none)
  | _ => none)
 | _ => none
theorem deF_ok {α : Type} {T0 K0 E0 : Nat} {k : IntKind} {l : List (Int × α)} {n : Int} {enc : α → AV} (hT : MapS P T0 K0 E0 k) {o : Oper} {N : Nat} {ids : List Nat} {env : Env} {σ : Sto} {s : Stp} {ob : Obs}
  (h : deF T0 K0 k l n enc o.op env σ = some (s, ob)) (he : ob = ([.mpf (encM k enc l), .int k n], [(0, .cells E0 [])])) : StOk ⟨P, N, ids⟩ o env σ s := by
 cases ho : o.op <;> rw [ho] at h
 case call c =>
  obtain ⟨cl, args, tys⟩ := c
  simp only [deF] at h
  split at h
  ·rename_i b
   split at h
   ·split at h
    ·rename_i x y hargs
     have : args = #[x, y] := Array.toList_inj.1 (by simpa using hargs)
     subst this
     split at h
     ·rename_i T K htys
      have : tys = #[T, K] := Array.toList_inj.1 (by simpa using htys)
      subst this
      split at h
      ·rename_i d hx
       split at h
       ·rename_i k' n' hy
        split at h
        ·rename_i K' E ents hd
         cases hb : (Nat.beq T T0 && Nat.beq K K0 && Nat.beq K' K0) with
         | false => rw [hb] at h; cases h
         | true =>
          rw [hb] at h
          simp only [Bool.and_eq_true] at hb
          obtain ⟨⟨b1, b2⟩, b3⟩ := hb
          have := Nat.eq_of_beq_eq_true b1
          subst this
          have := Nat.eq_of_beq_eq_true b2
          subst this
          have := Nat.eq_of_beq_eq_true b3
          subst this
          cases h
          simp only [Prod.mk.injEq, List.cons.injEq, AV.int.injEq, AV.mpf.injEq, AObj.cells.injEq, and_true, true_and] at he
          obtain ⟨⟨rfl, rfl, rfl⟩, rfl⟩ := he
          exact ⟨D.mapDelete l enc ho (Env.evo_ev hx) (Env.evo_ev hy) hd hT, rfl⟩
        ·cases h
       ·cases h
      ·cases h
     ·cases h
    ·cases h
   ·cases h
  ·cases h
 all_goals (simp only [deF] at h; cases h)
def hde {α : Type} {T0 K0 E0 : Nat} {k : IntKind} (l : List (Int × α)) (n : Int) (enc : α → AV) (hT : MapS P T0 K0 E0 k) : Hint P :=
 .gs true ([.mpf (encM k enc l), .int k n], [(0, .cells E0 [])]) (fun _ => deF T0 K0 k l n enc) fun _ _ _ _ _ _ _ h he => deF_ok hT h he
/-- an iterator -/
def rgF (T0 di : Nat) (es : Array MapEntry) (clock : Nat) (ids : List Nat) (op : Op) (env : Env) (σ : Sto) : Option (Stp × Obs) := match op with
 | .range T x => (match env.evo x with
  | some (.mapv dm) => (match σ.get dm with
   | some om => (match om.lie with
    | some (es', c') => bif Nat.beq T T0 && !ids.contains di && σ.clean [di].contains then some (.e [di] [di] (.ptr di 0) ((di, .iter dm clock clock #[]) :: σ), ([], [(0, .mapx es' c' 0 0 [])])) else none
    | _ => none)
   | _ => none)
  | _ => none)
 | _ => none
theorem rgF_ok {T0 K0 E0 di clock : Nat} {k : IntKind} {es : Array MapEntry} (hT : MapS P T0 K0 E0 k) {o : Oper} {N : Nat} {ids : List Nat} {env : Env} {σ : Sto} {s : Stp} {ob : Obs}
  (h : rgF T0 di es clock ids o.op env σ = some (s, ob)) (he : ob = ([], [(0, .mapx es clock 0 0 [])])) : StOk ⟨P, N, ids⟩ o env σ s := by
 cases ho : o.op <;> rw [ho] at h
 case range T x =>
  simp only [rgF] at h
  split at h
  ·rename_i dm hx
   split at h
   ·rename_i om hd
    split at h
    ·rename_i es' c' hl
     cases hb : (Nat.beq T T0 && !ids.contains di && σ.clean [di].contains) with
     | false => rw [hb] at h; cases h
     | true =>
      rw [hb] at h
      simp only [Bool.and_eq_true, Bool.not_eq_true'] at hb
      obtain ⟨⟨b1, b2⟩, b3⟩ := hb
      have := Nat.eq_of_beq_eq_true b1
      subst this
      cases h
      simp only [Prod.mk.injEq, List.cons.injEq, AObj.mapx.injEq, and_true, true_and] at he
      obtain ⟨rfl, rfl⟩ := he
      exact ⟨D.range ho (Env.evo_ev hx) hd hl hT.und b2 b3, by simp only [List.all_cons, List.all_nil, b2]; rfl⟩
    ·cases h
   ·cases h
  ·cases h
 all_goals (simp only [rgF] at h; cases h)
def hrg {T0 K0 E0 : Nat} {k : IntKind} (di : Nat) (es : Array MapEntry) (clock : Nat) (hT : MapS P T0 K0 E0 k) : Hint P :=
 .gs true ([], [(0, .mapx es clock 0 0 [])]) (rgF T0 di es clock) fun _ _ _ _ _ _ _ h he => rgF_ok hT h he
/-- the entry at hand -/
def enF (di dm : Nat) (a : AV) (rows : Bool) (op : Op) (env : Env) (σ : Sto) : Option (Stp × Obs) := match op with
 | .entry x => (match env.evo x with
  | some (.ptr di' 0) => (match σ.get di with
   | some ob1 => (match σ.get dm with
    | some (.mapx es c K E ents) => bif Nat.beq di' di && !rows then some (.y [di, dm] a, ([.mpf ents], [(0, ob1), (1, .mapx es c 0 0 [])])) else none
    | some (.outM K E e keys hole (some (es, c))) => bif Nat.beq di' di && rows then some (.y [di, dm] a, ([.agg keys], [(0, ob1), (1, .mapx es c 0 0 [])])) else none
    | _ => none)
   | _ => none)
  | _ => none)
 | _ => none
theorem enX_ok {α : Type} {di dm clock i : Nat} {k : IntKind} {es : Array MapEntry} {seen : Array Nat} {e : MapEntry} {n : Int} {v : α} {l : List (Int × α)} {enc : α → AV} (hE : es[i]? = some e) (hl : l[i]? = some (n, v)) {o : Oper} {N : Nat} {ids : List Nat} {env : Env} {σ : Sto} {s : Stp} {ob : Obs}
  (h : enF di dm (.tup [.int k n, enc v]) false o.op env σ = some (s, ob)) (he : ob = ([.mpf (encM k enc l)], [(0, .iter dm clock clock (seen.push e.born)), (1, .mapx es clock 0 0 [])])) : StOk ⟨P, N, ids⟩ o env σ s := by
 cases ho : o.op <;> rw [ho] at h
 case entry x =>
  simp only [enF] at h
  split at h
  ·rename_i di' hx
   split at h
   ·rename_i ob1 h1
    split at h
    ·rename_i es' c K E ents hd
     cases hb : Nat.beq di' di with
     | false => rw [hb] at h; cases h
     | true =>
      rw [hb] at h
      have := Nat.eq_of_beq_eq_true hb
      subst this
      cases h
      simp only [Prod.mk.injEq, List.cons.injEq, AV.mpf.injEq, AObj.mapx.injEq, and_true, true_and] at he
      obtain ⟨rfl, rfl, rfl, rfl⟩ := he
      exact Y.entryX l enc ho (Env.evo_ev hx) h1 hd hE hl
    ·rename_i K E e keys hole es' c hd
     simp only [Bool.and_false, cond_false] at h; cases h
    ·cases h
   ·cases h
  ·cases h
 all_goals (simp only [enF] at h; cases h)
def hex {α : Type} {es : Array MapEntry} {i : Nat} {e : MapEntry} {n : Int} {v : α} {l : List (Int × α)} (di dm clock : Nat) (k : IntKind) (seen : Array Nat) (enc : α → AV) (hE : es[i]? = some e) (hl : l[i]? = some (n, v)) : Hint P :=
 .gs false ([.mpf (encM k enc l)], [(0, .iter dm clock clock (seen.push e.born)), (1, .mapx es clock 0 0 [])]) (fun _ => enF di dm (.tup [.int k n, enc v]) false) fun _ _ _ _ _ _ _ h he => enX_ok hE hl h he
theorem enO_ok {α : Type} {di dm clock i : Nat} {k : IntKind} {es : Array MapEntry} {seen : Array Nat} {e : MapEntry} {n : Int} {l : List (Int × α)} (hE : es[i]? = some e) (hl : (l.map (·.1))[i]? = some n) {o : Oper} {N : Nat} {ids : List Nat} {env : Env} {σ : Sto} {s : Stp} {ob : Obs}
  (h : enF di dm (.tup [.int k n, .junk]) true o.op env σ = some (s, ob)) (he : ob = ([.agg (encK k l)], [(0, .iter dm clock clock (seen.push e.born)), (1, .mapx es clock 0 0 [])])) : StOk ⟨P, N, ids⟩ o env σ s := by
 cases ho : o.op <;> rw [ho] at h
 case entry x =>
  simp only [enF] at h
  split at h
  ·rename_i di' hx
   split at h
   ·rename_i ob1 h1
    split at h
    ·rename_i es' c K E ents hd
     simp only [Bool.not_true, Bool.and_false, cond_false] at h; cases h
    ·rename_i K E e keys hole es' c hd
     cases hb : Nat.beq di' di with
     | false => rw [hb] at h; cases h
     | true =>
      rw [hb] at h
      have := Nat.eq_of_beq_eq_true hb
      subst this
      cases h
      simp only [Prod.mk.injEq, List.cons.injEq, AV.agg.injEq, AObj.mapx.injEq, and_true, true_and] at he
      obtain ⟨rfl, rfl, rfl, rfl⟩ := he
      exact Y.entryO l ho (Env.evo_ev hx) h1 hd hE hl
    ·cases h
   ·cases h
  ·cases h
 all_goals (simp only [enF] at h; cases h)
def heo {α : Type} {es : Array MapEntry} {i : Nat} {e : MapEntry} {n : Int} {l : List (Int × α)} (di dm clock : Nat) (k : IntKind) (seen : Array Nat) (hE : es[i]? = some e) (hl : (l.map (·.1))[i]? = some n) : Hint P :=
 .gs false ([.agg (encK k l)], [(0, .iter dm clock clock (seen.push e.born)), (1, .mapx es clock 0 0 [])]) (fun _ => enF di dm (.tup [.int k n, .junk]) true) fun _ _ _ _ _ _ _ h he => enO_ok hE hl h he
end
/-! ### for the loop -/
theorem lenX {G : Gl} {σ : Sto} {cx : Cx} {I : Imm} {β : Nat → Value} {w : World} {α : Type} {k : IntKind} {enc : α → AV} {dm K E clock : Nat} {es : Array MapEntry} {l : List (Int × α)} (hw : RelW G cx I β σ w) (hd : σ.get dm = some (.mapx es clock K E (encM k enc l))) (hn : β dm ≠ .nilFunc) : es.size = l.length := by
 have ho := hw.objs dm _ hd
 simp only [ObjRep, hn, false_or] at ho
 obtain ⟨r, q1, q2, q3, _⟩ := ho
 have := EntL_length _ _ q3
 simpa [encM] using this
theorem lenO {G : Gl} {σ : Sto} {cx : Cx} {I : Imm} {β : Nat → Value} {w : World} {α : Type} {k : IntKind} {dm K E e clock : Nat} {es : Array MapEntry} {hole : Option (Option Nat × Nat)} {l l0 : List (Int × α)} (hw : RelW G cx I β σ w) (hd : σ.get dm = some (.outM K E e (encK k l) hole (some (es, clock)))) (hn : β dm ≠ .nilFunc) (hl : l.map (·.1) = l0.map (·.1)) : es.size = l0.length := by
 have ho := hw.objs dm _ hd
 simp only [ObjRep, hn, false_or] at ho
 obtain ⟨r, es', clock', hs, as, q1, q2, q3, q4, q5, q6, q7, q8, q9⟩ := ho
 cases q9 _ rfl
 have h1 := q5.length.2
 have h2 := congrArg List.length hl
 simp [encK] at h1 h2
 omega
theorem setI_keys {α : Type} : ∀ {l : List (Int × α)} {n : Int} (v : α), (getI l n).isSome = true → (setI l n v).map (·.1) = l.map (·.1)
 | [], _, _, h => by simp [getI] at h
 | p :: r, n, v, h => by
  rw [getI_cons] at h
  by_cases hp : p.1 = n
  ·simp [setI, hp]
  ·rw [if_neg hp] at h
   simp [setI, hp, setI_keys v h]
theorem key_at {α : Type} {l l0 : List (Int × α)} {i : Nat} {n : Int} {v : α} (h : l.map (·.1) = l0.map (·.1)) (hl : l0[i]? = some (n, v)) : (l.map (·.1))[i]? = some n := by rw [h]; simp [hl]
end Go.Proofs.Ytflifgcoleknlaa

/- Steps: a slice that is made, arrays. No condition but those that stand in each. -/
namespace Go.Proofs.Ytflifgcoleknlaa
set_option linter.all false
open Go
section
variable {G : Gl} {σ : Sto} {o : Oper} {ev : Operand → AV}
theorem zero_info {P : Program} {E : TypeId} {i : TypeInfo} {z z' : Value} {w : World} (hi : P.info? E = some i) (hz : i.zero = some z) (h : (zeroValue E).run P w = .ok z' w) : z' = z := by
 simp [zeroValue, typeInfo, hi, hz] at h
 exact h.symm
theorem D.makeSlice {T E bytes d : Nat} {x y : Operand} {k k' : IntKind} {n : Int} {a : AV} {zc : Value} (h : o.op = .makeSlice T x y) (hx : ev x = .int k n) (hy : ev y = .int k' n) (hA : AppS G.P T E 1 bytes) (hS : SliS G.P T E 1 [zc]) (ha : ∀ I, RepC I a zc) (h0 : 0 ≤ n) (hb : n ≤ 4294967296) (hby : bytes ≤ 65536)
  (hi : G.ids.contains d = false) (hc : σ.clean [d].contains = true) : Does G o ev σ [d] [d] (fun r σ' => r = .own d ∧ σ' = (d, .slice E 1 (List.replicate n.toNat [a]) 0 false) :: σ) := by
 intro cx I β w ρ hw hop
 have h1 := hop x (by simp [h, Op.operands]); rw [hx] at h1; have h1 := rep_int h1
 have h2 := hop y (by simp [h, Op.operands]); rw [hy] at h2; have h2 := rep_int h2
 obtain ⟨i, z, hi1, hz1, hz2, hz3, hz4⟩ := hA.info
 obtain ⟨z', g1, g2⟩ := hS.zero w
 have := zero_info hi1 hz1 g1
 subst this
 have hmul : (i.bytes : Int) * n ≤ 281474976710656 := by
  rw [hz3]
  have h1 : (bytes : Int) * n ≤ (65536 : Int) * 4294967296 := Int.mul_le_mul (by omega) hb h0 (by omega)
  omega
 have hr := run_make (P := G.P) w T E i z' hA.und hi1 hz1 k k' n n h0 (Int.le_refl _) hmul (by omega)
 rw [hz2, Nat.mul_one, g2] at hr
 have hrun : (execOp ρ o).run G.P w = .ok (.value (.slice (some ⟨w.heap.size, 0, none⟩) n.toNat n.toNat)) (w.alloc (.cells (madeCells #[zc] n.toNat) E)) := by simp [execOp, h, h1, h2, hr]
 rw [hrun]
 have hv := hw.virt (mat := [d]) (σ2 := σ) (env := []) ⟨fun _ _ => rfl, by simpa using hi, rfl, hc⟩
 have hb : ∀ y, y ≠ d → updH (setH β [d]) d (.slice (some ⟨w.heap.size, 0, none⟩) n.toNat n.toNat) y = β y := fun y hy => by rw [updH_ne _ _ hy]; simp [setH, hy]
 have hbi : updH (setH β [d]) d (.slice (some ⟨w.heap.size, 0, none⟩) n.toNat n.toNat) d = .slice (some ⟨w.heap.size, 0, none⟩) n.toNat n.toNat := updH_same _ _ _
 refine ⟨.own d, _, I, updH (setH β [d]) d (.slice (some ⟨w.heap.size, 0, none⟩) n.toNat n.toNat), ⟨rfl, rfl⟩, ?_, ?_, ImmLe.refl I, fun y hy => hb y (by simpa using hy), fun y hy => by rw [Sto.get_cons, if_neg (Ne.symm (by simpa using hy))]⟩
 ·simp only [Rep, hbi, isSl, and_self]
 ·refine hv.turn (d := d) (Kept.alloc w _) (.inl hw.size) (fun x hx => by rw [Sto.get_cons, if_neg (Ne.symm hx)]) (fun x hx hs e => by
    obtain ⟨ob, hs⟩ := Option.isSome_iff_exists.1 hs
    exact absurd (hv.obj_lt hs e) (by omega)) (ImmLe.refl I) (fun _ _ _ => rfl) (fun o' v' hv' => by rw [hw.imm_none (Nat.le_refl _)] at hv'; cases hv') (hw.imm_none (Nat.le_refl _) none)
   (fun x hx => updH_ne _ _ hx) (.inl (by simpa using hi)) (HLe.upd (by simp [setH])) (.inl (by rw [hbi]; rfl)) fun ob hob => ?_
  rw [Sto.get_cons, if_pos rfl] at hob
  cases hob
  simp only [ObjRep, hbi]
  refine .inr (.inr ⟨w.heap.size, n.toNat, _, by rw [List.length_replicate], by rw [List.length_replicate]; exact Nat.le_refl _, by simp [maxLen]; omega, heap_alloc_new w _, by rw [size_madeCells, Nat.mul_one], ?_, fun e he => by rw [List.eq_of_mem_replicate he]; rfl, Nat.zero_le _, by simp, fun o _ => hw.imm_none (Nat.le_refl _) o, .inl hw.size⟩)
  rw [toList_madeCells_one, List.length_replicate, Nat.mul_one]
  have : ∀ m : Nat, RepCs I (List.replicate m [a]).flatten (List.replicate m zc) := by
   intro m
   induction m with
   | zero => simp [RepCs]
   | succ m ih =>
    simp only [List.replicate_succ, List.flatten_cons, List.singleton_append, RepCs]
    exact ⟨_, _, rfl, ha I, ih⟩
  have e : (List.replicate n.toNat zc).take n.toNat = List.replicate n.toNat zc := by rw [List.take_of_length_le]; simp
  rw [e]
  exact this _
theorem Y.indexA {T E N sz d off : Nat} {x y : Operand} {k : IntKind} {i : Int} (h : o.op = .indexAddr T x y) (hx : ev x = .ptr d off) (hy : ev y = .int k i) (hu : G.P.underlying T = some (.array N E)) (hs : ∀ w, (sizeOf E).run G.P w = .ok sz w) (hi : 0 ≤ i ∧ i < N) :
  Yields G o ev σ [] [] (.ptr d (off + i.toNat * sz)) :=
 .pure fun σ' cx I β w ρ hR hw hop => by
  have h1 := hop x (by simp [h, Op.operands]); rw [hx] at h1
  have h2 := hop y (by simp [h, Op.operands]); rw [hy] at h2; have h2 := rep_int h2
  simp only [Rep] at h1
  obtain ⟨b, hb1, h3⟩ := h1
  have e1 : ∀ w, (underlying T).run G.P w = .ok (.array N E) w := fun w => by simp [underlying, program, Sem.run, hu]
  exact ⟨.pointer (some ⟨b, off + i.toNat * sz, none⟩), by simp [execOp, h, h2, h3, Instr.indexAt, Instr.sureAddr, asIntOf, e1, hi, hs, Addr.add], by simp only [Rep]; exact ⟨b, hb1, rfl⟩⟩
end
theorem fill_mono {p p' : Nat → Option (Nat × Nat)} (h : ∀ i q, p i = some q → p' i = some q) : ∀ (parts : List (Nat × Value)) (cs out : Array Value), Instr.fill p cs parts = some out → Instr.fill p' cs parts = some out
 | [], cs, out, e => e
 | (i, v) :: r, cs, out, e => by
  simp only [Instr.fill] at e ⊢
  cases hp : p i with
  | none => rw [hp] at e; cases e
  | some q =>
   rw [hp] at e
   rw [h i q hp]
   simp only at e ⊢
   split at e
   ·cases e
   ·rename_i hc
    rw [if_neg hc]
    exact fill_mono h r _ _ e
def plA (n sz : Nat) : List (Nat × Nat) := (List.range n).map fun i => (i * sz, sz)
theorem arrS {P : Program} {T E n sz : Nat} {zs : List Value} (hz : ∀ w, ∃ z, (zeroValue T).run P w = .ok z w ∧ z.cells = zs.toArray) (hu : P.underlying T = some (.array n E)) (hs : ∀ w, (sizeOf E).run P w = .ok sz w) : StrS P T zs (plA n sz) where
 run := fun parts cells w h => by
  have h' : Instr.fill (fun i => some (i * sz, sz)) zs.toArray parts.toList = some cells := fill_mono (fun i q hq => by
   simp only [plA, List.getElem?_map, Option.map_eq_some_iff] at hq
   obtain ⟨j, h1, rfl⟩ := hq
   obtain ⟨h2, h3⟩ := List.getElem?_eq_some_iff.1 h1
   rw [List.getElem_range] at h3
   rw [h3]) _ _ _ h
  have e1 : ∀ w, (underlying T).run P w = .ok (.array n E) w := fun w => by simp [underlying, program, Sem.run, hu]
  obtain ⟨z, hz1, hz2⟩ := hz w
  unfold Instr.build
  simp only [Sem.run_bind, hz1, Result.andThen_ok, e1, hs, hz2]
  simp only [h']
  rfl
section
variable {P : Program}
def msF {α : Type} (T0 d E : Nat) (x0 : α) (e : α → List AV) (n : Int) (ids : List Nat) (op : Op) (env : Env) (σ : Sto) : Option (Stp × Obs) := match op with
 | .makeSlice T x y => (match env.evo x with
  | some (.int _ n1) => (match env.evo y with
   | some (.int _ n2) => bif Nat.beq T T0 && !ids.contains d && σ.clean [d].contains then some (.e [d] [d] (.own d) ((d, .slice E 1 ((List.replicate n.toNat x0).map e) 0 false) :: σ), ([.int .i64 n1, .int .i64 n2], [])) else none
   | _ => none)
  | _ => none)
 | _ => none
theorem msF_ok {α : Type} {T0 E bytes d : Nat} {x0 : α} {e : α → List AV} {n : Int} {a : AV} {zc : Value} (hA : AppS P T0 E 1 bytes) (hS : SliS P T0 E 1 [zc]) (hx0 : e x0 = [a]) (ha : ∀ I, RepC I a zc) (h0 : 0 ≤ n) (hb : n ≤ 4294967296) (hby : bytes ≤ 65536) {o : Oper} {N : Nat} {ids : List Nat} {env : Env} {σ : Sto} {s : Stp} {ob : Obs}
  (h : msF T0 d E x0 e n ids o.op env σ = some (s, ob)) (he : ob = ([.int .i64 n, .int .i64 n], [])) : StOk ⟨P, N, ids⟩ o env σ s := by
 cases ho : o.op <;> rw [ho] at h
 case makeSlice T x y =>
  simp only [msF] at h
  split at h
  ·rename_i k1 n1 hx
   split at h
   ·rename_i k2 n2 hy
    cases hc : (Nat.beq T T0 && !ids.contains d && σ.clean [d].contains) with
    | false => rw [hc] at h; cases h
    | true =>
     rw [hc] at h
     simp only [Bool.and_eq_true, Bool.not_eq_true'] at hc
     obtain ⟨⟨b1, b2⟩, b3⟩ := hc
     have := Nat.eq_of_beq_eq_true b1
     subst this
     cases h
     simp only [Prod.mk.injEq, List.cons.injEq, AV.int.injEq, and_true, true_and] at he
     obtain ⟨rfl, rfl⟩ := he
     rw [List.map_replicate, hx0]
     exact ⟨D.makeSlice ho (Env.evo_ev hx) (Env.evo_ev hy) hA hS ha h0 hb hby b2 b3, by simp only [List.all_cons, List.all_nil, b2]; rfl⟩
   ·cases h
  ·cases h
 all_goals (simp only [msF] at h; cases h)
def hms {α : Type} {T0 E bytes : Nat} {a : AV} {zc : Value} (d : Nat) (x0 : α) (e : α → List AV) (n : Int) (hA : AppS P T0 E 1 bytes) (hS : SliS P T0 E 1 [zc]) (hx0 : e x0 = [a]) (ha : ∀ I, RepC I a zc) (hn : (decide (0 ≤ n) && decide (n ≤ 4294967296)) = true) (hby : bytes ≤ 65536) : Hint P :=
 .gs true ([.int .i64 n, .int .i64 n], []) (msF T0 d E x0 e n) fun _ _ _ _ _ _ _ h he => by
  simp only [Bool.and_eq_true, decide_eq_true_eq] at hn
  exact msF_ok hA hS hx0 ha hn.1 hn.2 hby h he
def baF (T0 : Nat) (zs : List Value) (pl : List (Nat × Nat)) (op : Op) (env : Env) : Option (Stp × Obs) := match op with
 | .build T parts => (match env.evoP parts.toList with
  | some ps => (match fillO pl (avOfL zs) ps with
   | some cs => bif Nat.beq T T0 then some (.y [] (.agg cs), ([], [])) else none
   | none => none)
  | none => none)
 | _ => none
theorem baF_ok {T0 : Nat} {zs : List Value} {pl : List (Nat × Nat)} (hS : StrS P T0 zs pl) {o : Oper} {N : Nat} {ids : List Nat} {env : Env} {σ : Sto} {s : Stp} {ob : Obs} (h : baF T0 zs pl o.op env = some (s, ob)) : StOk ⟨P, N, ids⟩ o env σ s := by
 cases ho : o.op <;> rw [ho] at h
 case build T parts =>
  simp only [baF] at h
  split at h
  ·rename_i ps hp
   split at h
   ·rename_i cs hf
    cases hc : Nat.beq T T0 with
    | false => rw [hc] at h; cases h
    | true =>
     rw [hc] at h
     have := Nat.eq_of_beq_eq_true hc
     subst this
     cases h
     exact Z.build ho hS hp hf
   ·cases h
  ·cases h
 all_goals (simp only [baF] at h; cases h)
def hba {T0 : Nat} {zs : List Value} {pl : List (Nat × Nat)} (hS : StrS P T0 zs pl) : Hint P := .gs false ([], []) (fun _ op env _ => baF T0 zs pl op env) fun _ _ _ _ _ _ _ h _ => baF_ok hS h
def iaF (T0 N0 sz : Nat) (op : Op) (env : Env) : Option (Stp × Obs) := match op with
 | .indexAddr T x y => (match env.evo x with
  | some (.ptr d off) => (match env.evo y with
   | some (.int _ i) => bif Nat.beq T T0 && (decide (0 ≤ i) && decide (i < (N0 : Int))) then some (.y [] (.ptr d (off + i.toNat * sz)), ([], [])) else none
   | _ => none)
  | _ => none)
 | _ => none
theorem iaF_ok {T0 N0 E sz : Nat} (hu : P.underlying T0 = some (.array N0 E)) (hs : ∀ w, (sizeOf E).run P w = .ok sz w) {o : Oper} {N : Nat} {ids : List Nat} {env : Env} {σ : Sto} {s : Stp} {ob : Obs} (h : iaF T0 N0 sz o.op env = some (s, ob)) : StOk ⟨P, N, ids⟩ o env σ s := by
 cases ho : o.op <;> rw [ho] at h
 case indexAddr T x y =>
  simp only [iaF] at h
  split at h
  ·rename_i d off hx
   split at h
   ·rename_i k i hy
    cases hc : (Nat.beq T T0 && (decide (0 ≤ i) && decide (i < (N0 : Int)))) with
    | false => rw [hc] at h; cases h
    | true =>
     rw [hc] at h
     simp only [Bool.and_eq_true, decide_eq_true_eq] at hc
     have := Nat.eq_of_beq_eq_true hc.1
     subst this
     cases h
     exact Y.indexA ho (Env.evo_ev hx) (Env.evo_ev hy) hu hs hc.2
   ·cases h
  ·cases h
 all_goals (simp only [iaF] at h; cases h)
def hia {T0 N0 E sz : Nat} (hu : P.underlying T0 = some (.array N0 E)) (hs : ∀ w, (sizeOf E).run P w = .ok sz w) : Hint P := .gs false ([], []) (fun _ op env _ => iaF T0 N0 sz op env) fun _ _ _ _ _ _ _ h _ => iaF_ok hu hs h
end
end Go.Proofs.Ytflifgcoleknlaa
