/- Several texts in one. No condition but those that stand in each. -/
import Derived.Test.YtmfehenfoepkfaaAB
import Derived.Maps.RangeRun
import Derived.Test.YtmfehenfoepkfaaBA
import Derived.Laws.MakeOwn
import Derived.Laws.OwnMore
/- Bundles of own rows: taken out, put back, laid down for good. No condition but bR bw stand in each. -/
namespace Go.Proofs.Ytmfehenfoepkfaa
set_option linter.all false
open Go
section redo
variable {G : Gl} {cx : Cx} {I : Imm} {β : Nat → Value} {σ : Sto} {w : World}
/-- a part of the store, in other words: what it aad it owned before -/
theorem bk.redo (h : bk G cx I β σ w) {M news : List Nat} {σ2 : Sto} {β2 : Nat → Value} {w' : World} {b : Nat} (hk : Kept w w' b) (hIb : ∀ o, I b o = none) (hfree : ∀ x, x ∉ M → (σ.get x).isSome → b ∉ cc (β x)) (hp : Place cx b)
    (hσ : ∀ x, x ∉ M → σ2.get x = σ.get x) (hβ : ∀ x, x ∉ news → β2 x = β x) (hnews : ∀ x ∈ news, x ∈ M ∧ x ∉ G.ids) (hcl : ∀ x o, x ∉ M → σ.get x = some o → gy news.contains o = false)
    (yw : ∀ x ∈ M, ∀ o, σ2.get x = some o → az cx I β2 w' x o)
    (hown : ∀ x ∈ M, (σ2.get x).isSome → ∀ c ∈ cc (β2 x), ∃ y ∈ M, (σ.get y).isSome ∧ c ∈ cc (β y))
    (hsep : ∀ x ∈ M, ∀ y ∈ M, x ≠ y → (σ2.get x).isSome → (σ2.get y).isSome → ∀ c ∈ cc (β2 x), c ∉ cc (β2 y)) : bk G cx I β2 σ2 w' := by
  have abT : ∀ x, x ∉ M → β2 x = β x := fun x hx => hβ x fun hn => hx (hnews x hn).1
  exact {
    good := fun b' o v hv => by
      have h1 := h.good b' o v hv
      have hlt : b' < w.heap.size := World.block_lt_of_cell? w _ h1
      have hne : b' ≠ b := fun e => by subst e; rw [hIb] at hv; cases hv
      rw [World.cell?_of_block (w := w) (hk.block b' hne hlt)]
      exact h1
    dD := fun b' v hv => by
      have hne : b' ≠ b := fun e => by subst e; rw [hIb] at hv; cases hv
      obtain ⟨es, clock, h1, h2⟩ := h.dD b' v hv
      exact ⟨es, clock, by rw [hk.block b' hne (bX h1)]; exact h1, h2⟩
    ff := h.ff
    gu := h.gu
    frame := fun b' hb hn => by
      have : b' ≠ b := fun e => by
        subst e
        rcases hp with q | q
        · omega
        · exact hn q
      rw [hk.block b' this (by have := h.size; omega)]
      exact h.frame b' hb hn
    size := Nat.le_trans h.size hk.size
    tape := hk.tape.trans h.tape
    os := hk.os.trans h.os
    output := hk.output.trans h.output
    drawn := Nat.le_trans h.drawn hk.drawn
    bK := fun x o hx => by
      by_cases hm : x ∈ M
      · exact yw x hm o hx
      · rw [hσ x hm] at hx
        have h1 := (h.bK x o hx).beta (β' := β2) (p := news.contains) (fun d hd => hβ d (by simpa using hd)) (by simpa using fun hn => hm (hnews x hn).1) (hcl x o hm hx)
        exact h1.keep hk rfl (by rw [abT x hm]; exact hfree x hm (by rw [hx]; rfl)) (br.refl I) (fun _ _ _ => rfl) (HLe.refl β2)
    bY := fun x y hx hy hne c hc hc' => by
      by_cases hm : x ∈ M
      · by_cases hm' : y ∈ M
        · exact hsep x hm y hm' hne hx hy c hc hc'
        · obtain ⟨z, z1, z2, z3⟩ := hown x hm hx c hc
          rw [hσ y hm'] at hy
          rw [abT y hm'] at hc'
          exact h.bY z y z2 hy (fun e => hm' (e ▸ z1)) c z3 hc'
      · rw [hσ x hm] at hx
        rw [abT x hm] at hc
        by_cases hm' : y ∈ M
        · obtain ⟨z, z1, z2, z3⟩ := hown y hm' hy c hc'
          exact h.bY x z hx z2 (fun e => hm (e ▸ z1)) c hc z3
        · rw [hσ y hm'] at hy
          rw [abT y hm'] at hc'
          exact h.bY x y hx hy hne c hc hc'
    keep := fun x hx => by
      have : x ∉ news := fun hn => (hnews x hn).2 hx
      rw [hβ x this]; exact h.keep x hx }
/-- .. the world sX -/
theorem bk.abU (h : bk G cx I β σ w) {M news : List Nat} {σ2 : Sto} {β2 : Nat → Value}
  (hσ : ∀ x, x ∉ M → σ2.get x = σ.get x) (hβ : ∀ x, x ∉ news → β2 x = β x) (hnews : ∀ x ∈ news, x ∈ M ∧ x ∉ G.ids) (hcl : ∀ x o, x ∉ M → σ.get x = some o → gy news.contains o = false)
  (yw : ∀ x ∈ M, ∀ o, σ2.get x = some o → az cx I β2 w x o)
  (hown : ∀ x ∈ M, (σ2.get x).isSome → ∀ c ∈ cc (β2 x), ∃ y ∈ M, (σ.get y).isSome ∧ c ∈ cc (β y))
  (hsep : ∀ x ∈ M, ∀ y ∈ M, x ≠ y → (σ2.get x).isSome → (σ2.get y).isSome → ∀ c ∈ cc (β2 x), c ∉ cc (β2 y)) : bk G cx I β2 σ2 w :=
 h.redo (b := w.heap.size) ⟨fun _ _ _ => rfl, Nat.le_refl _, rfl, rfl, rfl, Nat.le_refl _⟩ (fun o => h.cG (Nat.le_refl _) o) (fun x _ hs e => by
  obtain ⟨o, hs⟩ := Option.isSome_iff_exists.1 hs
  exact absurd (h.nH hs e) (by omega)) (.inl h.size) hσ hβ hnews hcl yw hown hsep
end redo
/-! ### a sY, row by row -/
section rows
variable {cx : Cx} {I : Imm} {w : World}
theorem gx.length : ∀ {els : List Rw} {hs : List Value}, gx cx I w els hs → hs.length = els.length
 | [], _, h => by rw [show _ = [] from h]; rfl
 | x :: r, _, h => by obtain ⟨u, us, rfl, _, _, h3⟩ := h; simp [gx.length h3]
theorem gx.get : ∀ {els : List Rw} {hs : List Value}, gx cx I w els hs → ∀ {i : Nat} {x : Rw}, els[i]? = some x → ∃ v, hs[i]? = some v ∧ je cx I w x v
 | [], _, _, i, x, hi => by simp at hi
 | y :: r, _, h, i, x, hi => by
  obtain ⟨u, us, rfl, h1, _, h3⟩ := h
  cases i with
  | zero => simp at hi; subst hi; exact ⟨u, rfl, h1⟩
  | succ i => simp at hi ⊢; exact h3.get hi
theorem gx.ne : ∀ {els : List Rw} {hs : List Value}, gx cx I w els hs → ∀ {i j : Nat} {u v : Value} {b : Nat}, i ≠ j → hs[i]? = some u → hs[j]? = some v → blk u = some b → blk v ≠ some b
 | [], _, h, i, j, u, v, b, _, hi, _, _ => by rw [show _ = [] from h] at hi; simp at hi
 | y :: r, _, h, i, j, u, v, b, hij, hi, hj, hu => by
  obtain ⟨z, us, rfl, h1, h2, h3⟩ := h
  cases i with
  | zero =>
   cases j with
   | zero => exact absurd rfl hij
   | succ j =>
    simp at hi hj; subst hi
    intro hv
    exact h2 b hu (List.mem_filterMap.2 ⟨v, List.mem_of_getElem? hj, hv⟩)
  | succ i =>
   cases j with
   | zero =>
    simp at hi hj; subst hj
    intro hv
    exact h2 b hv (List.mem_filterMap.2 ⟨u, List.mem_of_getElem? hi, hu⟩)
   | succ j => simp at hi hj; exact h3.ne (fun e => hij (by rw [e])) hi hj hu
theorem gx.set : ∀ {els : List Rw} {hs : List Value}, gx cx I w els hs → ∀ {i : Nat} {x : Rw} {v : Value}, je cx I w x v → (∀ j u b, j ≠ i → hs[j]? = some u → blk v = some b → blk u ≠ some b) → gx cx I w (els.set i x) (hs.set i v)
 | [], _, h, i, x, v, _, _ => by rw [show _ = [] from h]; simp [gx]
 | y :: r, _, h, i, x, v, hx, hd => by
  obtain ⟨z, us, rfl, h1, h2, h3⟩ := h
  cases i with
  | zero =>
   refine ⟨v, us, rfl, hx, fun b hb hm => ?_, h3⟩
   obtain ⟨u, hu, hub⟩ := List.mem_filterMap.1 hm
   obtain ⟨j, hj⟩ := List.getElem?_of_mem hu
   exact hd (j + 1) u b (by simp) (by simpa using hj) hb hub
  | succ i =>
   refine ⟨z, us.set i v, rfl, h1, fun b hb hm => ?_, h3.set hx fun j u b hj hu hb => hd (j + 1) u b (fun e => hj (by simpa using e)) (by simpa using hu) hb⟩
   obtain ⟨u, hu, hub⟩ := List.mem_filterMap.1 hm
   rcases List.mem_or_eq_of_mem_set hu with hu | rfl
   ·exact h2 b hb (List.mem_filterMap.2 ⟨u, hu, hub⟩)
   ·exact hd 0 z b (by simp) rfl hub hb
theorem gx.push : ∀ {els : List Rw} {hs : List Value}, gx cx I w els hs → ∀ {x : Rw} {v : Value}, je cx I w x v → (∀ u b, u ∈ hs → blk v = some b → blk u ≠ some b) → gx cx I w (els ++ [x]) (hs ++ [v])
 | [], _, h, x, v, hx, _ => by rw [show _ = [] from h]; exact ⟨v, [], rfl, hx, by simp, rfl⟩
 | y :: r, _, h, x, v, hx, hd => by
  obtain ⟨z, us, rfl, h1, h2, h3⟩ := h
  refine ⟨z, us ++ [v], rfl, h1, fun b hb hm => ?_, h3.push hx fun u b hu => hd u b (List.mem_cons_of_mem _ hu)⟩
  obtain ⟨u, hu, hub⟩ := List.mem_filterMap.1 hm
  rcases List.mem_append.1 hu with hu | hu
  ·exact h2 b hb (List.mem_filterMap.2 ⟨u, hu, hub⟩)
  ·simp at hu; subst hu
   exact hd z b (by simp) hub hb
theorem gx.other {cx' : Cx} {I' : Imm} {w' : World} {els : List Rw} {hs : List Value} (h : gx cx I w els hs) (hle : br I I') (hb : ∀ b ∈ hs.filterMap blk, (b < w.heap.size → w'.heap[b]? = w.heap[b]?) ∧ (∀ o, I' b o = I b o) ∧ (Place cx b → Place cx' b)) : gx cx' I' w' els hs := h.go hle hb
theorem fO (vs : Array Value) : cc (.tuple vs) = vs.toList.filterMap blk := rfl
theorem sN {hs : List Value} {i : Nat} {v : Value} {b : Nat} (h : b ∈ (hs.set i v).filterMap blk) : b ∈ hs.filterMap blk ∨ blk v = some b := by
 obtain ⟨u, hu, hub⟩ := List.mem_filterMap.1 h
 rcases List.mem_or_eq_of_mem_set hu with hu | rfl
 ·exact .inl (List.mem_filterMap.2 ⟨u, hu, hub⟩)
 ·exact .inr hub
/-- what a row is, as an object -/
def Rw.obj : Rw → bI
 | .sl T sz xs => .slice T sz xs 0 false
 | .mp K E aW => .map K E aW
def Rw.empty : Rw → Rw
 | .sl T sz _ => .sl T sz []
 | .mp _ _ _ => .sl 0 0 []
theorem Rw.aif (x : Rw) : je cx I w x.empty (.slice none 0 0) := by cases x <;> exact .inl ⟨rfl, rfl⟩
theorem je.obj {x : Rw} {v : Value} {β : Nat → Value} {d : Nat} (h : je cx I w x v) (hd : β d = v) : az cx I β w d x.obj := by
 cases x with
 | sl T sz xs =>
  simp only [Rw.obj, az, hd]
  rcases h with ⟨h, rfl⟩ | ⟨b, cap, arr, h1, h2, h3, h4, h5, h6, h7, h8, h9⟩
  ·exact .inr (.inl ⟨h, rfl, trivial⟩)
  ·exact .inr (.inr ⟨b, cap, arr, h1, h2, h3, h4, h5, h6, h7, Nat.zero_le _, fun h => (by cases h), fun o _ => h8 o, h9⟩)
 | mp K E aW =>
  simp only [Rw.obj, az, hd]
  obtain ⟨r, es, clock, h1, h2, h3, h4, h5, h6⟩ := h
  exact .inr ⟨r, es, clock, h1, h2, h3, h4, h5, h6⟩
theorem je.of_slice {T sz : Nat} {xs : List (List AV)} {fz : Bool} {β : Nat → Value} {d : Nat} (h : az cx I β w d (.slice T sz xs 0 fz)) (hn : β d ≠ .nilFunc) : je cx I w (.sl T sz xs) (β d) := by
 simp only [az] at h
 rcases h with h | ⟨h, rfl, _⟩ | ⟨b, cap, arr, h1, h2, h3, h4, h5, h6, h7, _, _, h8, h9⟩
 ·exact absurd h hn
 ·exact .inl ⟨h, rfl⟩
 ·exact .inr ⟨b, cap, arr, h1, h2, h3, h4, h5, h6, h7, fun o => h8 o (by omega), h9⟩
theorem je.ne {x : Rw} {v : Value} (h : je cx I w x v) : v ≠ .nilFunc ∧ (fR v = true ∨ oG v = true) := by
 cases x with
 | sl T sz xs =>
  rcases h with ⟨h, _⟩ | ⟨b, cap, arr, h1, _⟩
  ·rw [h]; simp [fR]
  ·rw [h1]; simp [fR]
 | mp K E aW => obtain ⟨r, es, clock, h1, _⟩ := h; rw [h1]; simp [oG]
theorem je.qY {x : Rw} {v : Value} (h : je cx I w x v) {b : Nat} (hb : b ∈ cc v) : blk v = some b := by
 cases v with
 | tuple vs =>
  have := h.ne.2
  simp [fR, oG] at this
 | _ => simpa [cc] using hb
end rows
/-! ### what a bundle's outer object is -/
def bI.reb (e2 : Nat) (h2 : Option (Option Nat × Nat)) : bI → bI
 | .cA T _ n _ => .cA T e2 n h2
 | .jd K E _ keys _ fx => .jd K E e2 keys h2 fx
 | o => o
def bI.ve : bI → Option (Nat × Option (Option Nat × Nat))
 | .cA _ e _ h => some (e, h)
 | .jd _ _ e _ h _ => some (e, h)
 | _ => none
theorem az.outer {cx : Cx} {I : Imm} {β : Nat → Value} {w : World} {d : Nat} {o : bI} {e : Nat} {hole : Option (Option Nat × Nat)} (ho : o.ve = some (e, hole)) (h : az cx I β w d o) :
  β d = .nilFunc ∨ ∃ hs as, β e = .tuple hs ∧ dX β hs.toList as hole ∧ ∃ b, blk (β d) = some b := by
 cases o <;> simp only [bI.ve, Option.some.injEq, Prod.mk.injEq] at ho <;> first | (cases ho; done) | skip
 ·obtain ⟨rfl, rfl⟩ := ho
  simp only [az] at h
  rcases h with q | ⟨b, cap, arr, hs, q1, q2, q3, q4, q5, q6, q7, q8, q9, q10⟩
  ·exact .inl q
  ·exact .inr ⟨hs, _, q6, q8, b, by rw [q1]; rfl⟩
 ·obtain ⟨rfl, rfl⟩ := ho
  simp only [az] at h
  rcases h with q | ⟨r, es, clock, hs, as, q1, q2, q3, q4, q5, q6, q7, q8⟩
  ·exact .inl q
  ·exact .inr ⟨hs, _, q3, q4, r, by rw [q1]; rfl⟩
theorem az.acW {cx : Cx} {I : Imm} {β β2 : Nat → Value} {w : World} {d : Nat} {o : bI} {e e2 : Nat} {hole h2 : Option (Option Nat × Nat)} {hs hs2 : Array Value} (ho : o.ve = some (e, hole)) (h : az cx I β w d o) (hd : β2 d = β d)
  (he : β e = .tuple hs) (he2 : β2 e2 = .tuple hs2) (hn : hs2.size = hs.size) (hh : ∀ as, dX β hs.toList as hole → dX β2 hs2.toList as h2) : az cx I β2 w d (o.reb e2 h2) := by
 cases o <;> simp only [bI.ve, Option.some.injEq, Prod.mk.injEq] at ho <;> first | (cases ho; done) | skip
 ·obtain ⟨rfl, rfl⟩ := ho
  simp only [az, bI.reb, hd] at h ⊢
  rcases h with q | ⟨b, cap, arr, hs', q1, q2, q3, q4, q5, q6, q7, q8, q9, q10⟩
  ·exact .inl q
  ·rw [he] at q6; cases q6
   exact .inr ⟨b, cap, arr, hs2, q1, q2, q3, q4, q5, he2, hn.trans q7, hh _ q8, q9, q10⟩
 ·obtain ⟨rfl, rfl⟩ := ho
  simp only [az, bI.reb, hd] at h ⊢
  rcases h with q | ⟨r, es, clock, hs', as, q1, q2, q3, q4, q5, q6, q7, q8⟩
  ·exact .inl q
  ·rw [he] at q3; cases q3
   exact .inr ⟨r, es, clock, hs2, as, q1, q2, he2, hh _ q4, q5, q6, q7, q8⟩
section take
variable {G : Gl} {cx : Cx} {I : Imm} {β : Nat → Value} {σ : Sto} {w : World}
/-- the store behind a afI taking: d the outer object, e its sY, e2 the new sY, t the row -/
def vU (σ : Sto) (d e e2 t : Nat) (od : bI) (els : List Rw) (i : Nat) (x : Rw) : Sto := (t, x.obj) :: (e2, .bun (els.set i x.empty)) :: (d, od.reb e2 (some (some i, t))) :: σ.minus [d, e]
theorem aaf {σ : Sto} {a b c : Nat} {oa ob oc : bI} {M : List Nat} (x : Nat) : Sto.get ((a, oa) :: (b, ob) :: (c, oc) :: σ.minus M) x = if a = x then some oa else if b = x then some ob else if c = x then some oc else if x ∈ M then none else σ.get x := by
 rw [Sto.aR, Sto.aR, Sto.aR, Sto.dw]
theorem w8 {σ : Sto} {a b : Nat} {oa ob : bI} {M : List Nat} (x : Nat) : Sto.get ((a, oa) :: (b, ob) :: σ.minus M) x = if a = x then some oa else if b = x then some ob else if x ∈ M then none else σ.get x := by
 rw [Sto.aR, Sto.aR, Sto.dw]
theorem bk.take (h : bk G cx I β σ w) {d e e2 t i : Nat} {od : bI} {els : List Rw} {x : Rw} (hd : σ.get d = some od) (ho : od.ve = some (e, none)) (he : σ.get e = some (.bun els)) (hx : els[i]? = some x) (hdn : β d ≠ .nilFunc)
  (ht : σ.get t = none) (he2 : σ.get e2 = none) (hte : t ≠ e2) (hti : t ∉ G.ids) (hei : e2 ∉ G.ids) (hcl : σ.clean [t, e2].contains = true) :
  ∃ hs : Array Value, β e = .tuple hs ∧ ∃ v, hs[i]? = some v ∧ je cx I w x v ∧ bk G cx I (fun y => if y = t then v else if y = e2 then .tuple (hs.setIfInBounds i (.slice none 0 0)) else β y) (vU σ d e e2 t od els i x) w := by
 rcases (h.bK d od hd).outer ho with q | ⟨hs, as, q1, q2, bd, q3⟩
 ·exact absurd q hdn
 have hbu := h.bK e _ he
 simp only [az, q1, Value.tuple.injEq, reduceCtorEq, false_or] at hbu
 obtain ⟨hs', rfl, hb⟩ := hbu
 obtain ⟨v, v1, v2⟩ := hb.get hx
 refine ⟨hs, q1, v, by simpa using v1, v2, ?_⟩
 have hne : ∀ y, (σ.get y).isSome → y ≠ t ∧ y ≠ e2 := fun y hy => ⟨fun e => (by subst e; rw [ht] at hy; cases hy), fun e => (by subst e; rw [he2] at hy; cases hy)⟩
 have vf := hne d (by rw [hd]; rfl)
 have abV := hne e (by rw [he]; rfl)
 have hde : d ≠ e := fun e' => by subst e'; rw [hd] at he; cases he; cases ho
 have hilt : i < hs.toList.length := (List.getElem?_eq_some_iff.1 v1).1
 let β2 : Nat → Value := fun y => if y = t then v else if y = e2 then .tuple (hs.setIfInBounds i (.slice none 0 0)) else β y
 have b2t : β2 t = v := by show (if _ then _ else _) = _; rw [if_pos rfl]
 have b2e : β2 e2 = .tuple (hs.setIfInBounds i (.slice none 0 0)) := by show (if _ then _ else _) = _; rw [if_neg (Ne.symm hte), if_pos rfl]
 have b2d : β2 d = β d := by show (if _ then _ else _) = _; rw [if_neg vf.1, if_neg vf.2]
 have hsl : (hs.setIfInBounds i (.slice none 0 0)).toList = hs.toList.set i (.slice none 0 0) := by simp
 refine h.abU (M := [d, e, e2, t]) (news := [t, e2]) (β2 := β2) (fun y hy => ?_) (fun y hy => ?_) (fun y hy => ?_) (fun y o _ hyo => (Sto.ck hcl y o hyo).2) (fun y hy o hyo => ?_) (fun y hy hs2 c hc => ?_) (fun y hy z hz hyz hs1 hs2 c hc hc' => ?_)
 ·simp only [List.mem_cons, List.not_mem_nil, or_false, not_or] at hy
  rw [vU, aaf, if_neg (Ne.symm hy.2.2.2), if_neg (Ne.symm hy.2.2.1), if_neg (Ne.symm hy.1), if_neg (by simp [hy.1, hy.2.1])]
 ·simp only [List.mem_cons, List.not_mem_nil, or_false, not_or] at hy
  show (if _ then _ else _) = _
  rw [if_neg hy.1, if_neg hy.2]
 ·simp only [List.mem_cons, List.not_mem_nil, or_false] at hy
  rcases hy with rfl | rfl
  ·exact ⟨by simp, hti⟩
  ·exact ⟨by simp, hei⟩
 ·rw [vU, aaf] at hyo
  split at hyo
  ·rename_i e'; subst e'; cases hyo; exact v2.obj b2t
  ·split at hyo
   ·rename_i e'; subst e'; cases hyo
    simp only [az]
    refine .inr ⟨_, b2e, ?_⟩
    rw [hsl]
    exact hb.set x.aif fun j u b _ _ hb' => by cases hb'
   ·split at hyo
    ·rename_i e'; subst e'; cases hyo
     refine (h.bK d od hd).acW ho b2d q1 b2e (by simp) fun as has => ?_
     rw [show as = hs.toList from has, hsl]
     refine ⟨by simpa using hilt, by rw [b2t]; exact v2.ne.1, ?_⟩
     rw [b2t, List.set_set]
     apply List.ext_getElem?
     intro j
     rw [List.getElem?_set]
     by_cases hij : i = j
     ·subst hij; rw [if_pos rfl, if_pos hilt]; exact v1
     ·rw [if_neg hij]
    ·split at hyo
     ·cases hyo
     ·rename_i h1 h2 h3 h4
      simp only [List.mem_cons, List.not_mem_nil, or_false] at hy h4
      rcases hy with rfl | rfl | rfl | rfl
      ·exact absurd rfl h3
      ·exact absurd (.inr rfl) h4
      ·exact absurd rfl h2
      ·exact absurd rfl h1
 ·simp only [List.mem_cons, List.not_mem_nil, or_false] at hy
  rw [vU, aaf] at hs2
  by_cases hyd : y = d
  ·subst hyd; rw [b2d] at hc; exact ⟨y, by simp, by rw [hd]; rfl, hc⟩
  by_cases hyt : y = t
  ·subst hyt
   rw [b2t] at hc
   exact ⟨e, by simp, by rw [he]; rfl, by rw [q1, fO]; exact List.mem_filterMap.2 ⟨v, List.mem_of_getElem? v1, v2.qY hc⟩⟩
  by_cases hye : y = e2
  ·subst hye
   rw [b2e, fO, hsl] at hc
   rcases sN hc with hc | hc
   ·exact ⟨e, by simp, by rw [he]; rfl, by rw [q1, fO]; exact hc⟩
   ·cases hc
  ·rw [if_neg (Ne.symm hyt), if_neg (Ne.symm hye), if_neg (Ne.symm hyd), if_pos] at hs2
   ·cases hs2
   ·rcases hy with rfl | rfl | rfl | rfl
    ·exact absurd rfl hyd
    ·simp
    ·exact absurd rfl hye
    ·exact absurd rfl hyt
 ·-- three objects: d, e2, t
  have cls : ∀ y, y ∈ [d, e, e2, t] → (Sto.get (vU σ d e e2 t od els i x) y).isSome → y = d ∨ y = e2 ∨ y = t := fun y hy hs2 => by
   rw [vU, aaf] at hs2
   simp only [List.mem_cons, List.not_mem_nil, or_false] at hy
   rcases hy with rfl | rfl | rfl | rfl
   ·exact .inl rfl
   ·rw [if_neg (Ne.symm abV.1), if_neg (Ne.symm abV.2), if_neg hde, if_pos (by simp)] at hs2; cases hs2
   ·exact .inr (.inl rfl)
   ·exact .inr (.inr rfl)
  have abW : ∀ c, c ∈ cc (β d) → c ∉ cc (β e) := h.bY d e (by rw [hd]; rfl) (by rw [he]; rfl) hde
  have inE : ∀ c, c ∈ cc (β2 e2) → ∃ j u, j ≠ i ∧ hs.toList[j]? = some u ∧ blk u = some c := fun c hc => by
   rw [b2e, fO, hsl] at hc
   obtain ⟨u, hu, hub⟩ := List.mem_filterMap.1 hc
   obtain ⟨j, hj⟩ := List.getElem?_of_mem hu
   rw [List.getElem?_set] at hj
   split at hj
   ·rename_i hij
    cases hj; cases hub
   ·rename_i hij; exact ⟨j, u, fun e => hij e.symm, hj, hub⟩
  have ajZ : ∀ c, c ∈ cc (β2 e2) → c ∈ cc (β e) := fun c hc => by
   obtain ⟨j, u, _, hj, hu⟩ := inE c hc
   rw [q1, fO]; exact List.mem_filterMap.2 ⟨u, List.mem_of_getElem? hj, hu⟩
  have inT : ∀ c, c ∈ cc (β2 t) → blk v = some c := fun c hc => by rw [b2t] at hc; exact v2.qY hc
  have aj0 : ∀ c, c ∈ cc (β2 t) → c ∈ cc (β e) := fun c hc => by
   rw [q1, fO]; exact List.mem_filterMap.2 ⟨v, List.mem_of_getElem? v1, inT c hc⟩
  have et : ∀ c, c ∈ cc (β2 e2) → c ∈ cc (β2 t) → False := fun c hc hc' => by
   obtain ⟨j, u, hj, hju, hub⟩ := inE c hc
   exact hb.ne hj hju v1 hub (inT c hc')
  rcases cls y hy hs1 with rfl | rfl | rfl <;> rcases cls z hz hs2 with rfl | rfl | rfl
  ·exact hyz rfl
  ·rw [b2d] at hc; exact abW c hc (ajZ c hc')
  ·rw [b2d] at hc; exact abW c hc (aj0 c hc')
  ·rw [b2d] at hc'; exact abW c hc' (ajZ c hc)
  ·exact hyz rfl
  ·exact et c hc hc'
  ·rw [b2d] at hc'; exact abW c hc' (aj0 c hc)
  ·exact et c hc' hc
  ·exact hyz rfl
/-- a row put back: what is in t is in its place -/
theorem bk.back (h : bk G cx I β σ w) {d e e2 t i : Nat} {od : bI} {els : List Rw} {T sz : Nat} {xs : List (List AV)} {fz : Bool} (hd : σ.get d = some od) (ho : od.ve = some (e, some (some i, t))) (he : σ.get e = some (.bun els))
  (ht : σ.get t = some (.slice T sz xs 0 fz)) (he2 : σ.get e2 = none) (hei : e2 ∉ G.ids) (hcl : σ.clean [e2].contains = true) :
  ∃ β2, (∀ y, y ≠ e2 → β2 y = β y) ∧ bk G cx I β2 ((e2, .bun (els.set i (.sl T sz xs))) :: (d, od.reb e2 none) :: σ.minus [d, e, t]) w := by
 have hne : ∀ y, (σ.get y).isSome → y ≠ e2 := fun y hy e => by subst e; rw [he2] at hy; cases hy
 have vf := hne d (by rw [hd]; rfl)
 have abV := hne e (by rw [he]; rfl)
 have htne := hne t (by rw [ht]; rfl)
 have hde : d ≠ e := fun e' => by subst e'; rw [hd] at he; cases he; cases ho
 have hdt : d ≠ t := fun e' => by subst e'; rw [hd] at ht; cases ht; cases ho
 have het : e ≠ t := fun e' => by subst e'; rw [he] at ht; cases ht
 -- what the new sY is
 have main : ∃ u : Value, (od.ve = some (e, some (some i, t)) → ∀ β2 : Nat → Value, (∀ y, y ≠ e2 → β2 y = β y) → β2 e2 = u → az cx I β2 w d (od.reb e2 none) ∧ az cx I β2 w e2 (.bun (els.set i (.sl T sz xs)))) ∧ ∀ c ∈ cc u, c ∈ cc (β e) ∨ c ∈ cc (β t) := by
  rcases (h.bK d od hd).outer ho with q | ⟨hs, as, q1, ⟨q2, q2', q2''⟩, bd, q3⟩
  ·refine ⟨.nilFunc, fun _ β2 h1 h2 => ⟨?_, by simp only [az]; exact .inl h2⟩, by simp [qZ]⟩
   have : β2 d = .nilFunc := by rw [h1 d vf]; exact q
   cases od <;> simp only [bI.ve, reduceCtorEq] at ho <;> simp only [bI.reb, az] <;> exact .inl this
  ·have hbu := h.bK e _ he
   simp only [az, q1, Value.tuple.injEq, reduceCtorEq, false_or] at hbu
   obtain ⟨hs', rfl, hb⟩ := hbu
   have hrow := je.of_slice (h.bK t _ ht) q2'
   refine ⟨.tuple (hs.setIfInBounds i (β t)), fun _ β2 h1 h2 => ⟨?_, ?_⟩, fun c hc => ?_⟩
   ·refine (h.bK d od hd).acW ho (h1 d vf) q1 h2 (by simp) fun as' has => ?_
    obtain ⟨_, _, has⟩ := has
    show as' = _
    rw [has]; simp
   ·simp only [az]
    refine .inr ⟨_, h2, ?_⟩
    rw [show (hs.setIfInBounds i (β t)).toList = hs.toList.set i (β t) by simp]
    refine hb.set hrow fun j u b hj hju hbt hbu => ?_
    refine h.bY e t (by rw [he]; rfl) (by rw [ht]; rfl) het b ?_ (dQ hbt)
    rw [q1, fO]; exact List.mem_filterMap.2 ⟨u, List.mem_of_getElem? hju, hbu⟩
   ·rw [fO, show (hs.setIfInBounds i (β t)).toList = hs.toList.set i (β t) by simp] at hc
    rcases sN hc with hc | hc
    ·exact .inl (by rw [q1, fO]; exact hc)
    ·exact .inr (dQ hc)
 obtain ⟨u, m1, m2⟩ := main
 have hb2 : ∀ y, y ≠ e2 → (fun y => if y = e2 then u else β y) y = β y := fun y hy => if_neg hy
 have sO : (fun y => if y = e2 then u else β y) e2 = u := if_pos rfl
 refine ⟨fun y => if y = e2 then u else β y, hb2, ?_⟩
 generalize (fun y => if y = e2 then u else β y) = β2 at hb2 sO
 obtain ⟨o1, o2⟩ := m1 ho β2 hb2 sO
 have cls : ∀ y, y ∈ [d, e, e2, t] → (Sto.get ((e2, .bun (els.set i (.sl T sz xs))) :: (d, od.reb e2 none) :: σ.minus [d, e, t]) y).isSome → y = d ∨ y = e2 := fun y hy hs2 => by
  rw [w8] at hs2
  simp only [List.mem_cons, List.not_mem_nil, or_false] at hy
  rcases hy with rfl | rfl | rfl | rfl
  ·exact .inl rfl
  ·rw [if_neg (Ne.symm abV), if_neg hde, if_pos (by simp)] at hs2; cases hs2
  ·exact .inr rfl
  ·rw [if_neg (Ne.symm htne), if_neg hdt, if_pos (by simp)] at hs2; cases hs2
 have aj1 : ∀ c, c ∈ cc (β2 d) → c ∉ cc (β2 e2) := fun c hc hc' => by
  rw [hb2 d vf] at hc
  rw [sO] at hc'
  rcases m2 c hc' with q | q
  ·exact h.bY d e (by rw [hd]; rfl) (by rw [he]; rfl) hde c hc q
  ·exact h.bY d t (by rw [hd]; rfl) (by rw [ht]; rfl) hdt c hc q
 refine h.abU (M := [d, e, e2, t]) (news := [e2]) (β2 := β2) (fun y hy => ?_) (fun y hy => hb2 y (by simpa using hy)) (fun y hy => by simp only [List.mem_singleton] at hy; subst hy; exact ⟨by simp, hei⟩) (fun y o _ hyo => (Sto.ck hcl y o hyo).2) (fun y hy o hyo => ?_) (fun y hy hs2 c hc => ?_) (fun y hy z hz hyz hs1 hs2 c hc hc' => ?_)
 ·simp only [List.mem_cons, List.not_mem_nil, or_false, not_or] at hy
  rw [w8, if_neg (Ne.symm hy.2.2.1), if_neg (Ne.symm hy.1), if_neg (by simp [hy.1, hy.2.1, hy.2.2.2])]
 ·have := cls y hy (by rw [hyo]; rfl)
  rw [w8] at hyo
  rcases this with rfl | rfl
  ·rw [if_neg (Ne.symm vf), if_pos rfl] at hyo; cases hyo; exact o1
  ·rw [if_pos rfl] at hyo; cases hyo; exact o2
 ·rcases cls y hy hs2 with rfl | rfl
  ·rw [hb2 y vf] at hc; exact ⟨y, by simp, by rw [hd]; rfl, hc⟩
  ·rw [sO] at hc
   rcases m2 c hc with q | q
   ·exact ⟨e, by simp, by rw [he]; rfl, q⟩
   ·exact ⟨t, by simp, by rw [ht]; rfl, q⟩
 ·rcases cls y hy hs1 with rfl | rfl <;> rcases cls z hz hs2 with rfl | rfl
  ·exact hyz rfl
  ·exact aj1 c hc hc'
  ·exact aj1 c hc' hc
  ·exact hyz rfl
end take
end Go.Proofs.Ytmfehenfoepkfaa

/- Maps of own rows: a row looked up, a row stored. No condition but bR bw stand in each. -/
namespace Go.Proofs.Ytmfehenfoepkfaa
set_option linter.all false
open Go
def aj2 {α : Type} (k : IntKind) (l : List (Int × α)) : List AV := l.map fun p => .int k p.1
theorem zh {α : Type} (p : Int × α) (r : List (Int × α)) (n : Int) : cB (p :: r) n = if p.1 = n then some p.2 else cB r n := by
 by_cases h : p.1 = n <;> simp [cB, List.find?, h]
/-! ### keys found -/
theorem sj.length {I : Imm} : ∀ {ks : List AV} {vs : List Value} {es : List MapEntry}, sj I ks vs es → vs.length = ks.length ∧ es.length = ks.length
 | [], _, _, h => by obtain ⟨rfl, rfl⟩ := h; exact ⟨rfl, rfl⟩
 | k :: ks, _, _, h => by
  obtain ⟨v, us, e, fs, rfl, rfl, _, _, h5⟩ := h
  have := h5.length
  simp [this.1, this.2]
section
variable {G : Gl} {σ : Sto} {o : Oper} {ev : Operand → AV}
end
end Go.Proofs.Ytmfehenfoepkfaa

/- Maps of own rows: a row stored; from an own map to a map of rows; a map as it aiQ. No condition but bR bw stand in each. -/
namespace Go.Proofs.Ytmfehenfoepkfaa
set_option linter.all false
open Go
section put
variable {G : Gl} {cx : Cx} {I : Imm} {β : Nat → Value} {σ : Sto} {w : World}
end put
section
variable {G : Gl} {σ : Sto} {o : Oper} {ev : Operand → AV}
end
end Go.Proofs.Ytmfehenfoepkfaa

/- Maps of own rows: made, put back, laid down for good; a map as it aiQ. No condition but bR bw stand in each. -/
namespace Go.Proofs.Ytmfehenfoepkfaa
set_option linter.all false
open Go
section imms
variable {cx : Cx} {I : Imm} {β : Nat → Value} {w : World}
end imms
section weak
variable {G : Gl} {env : Env} {σ : Sto}
theorem aeK {I : Imm} {β β2 : Nat → Value} {env : Env} {a : Act} {e : Nat} (h : iI I β env a) (hc : env.clean [e].contains = true) (hb : ∀ y, y ≠ e → β2 y = β y) : iI I β2 env a := fun t =>
 jW (p := [e].contains) (fun d hd => hb d (by simpa using hd)) _ _ (Env.ck hc t) (h t)
theorem je.lst {cx : Cx} {I I' : Imm} {w : World} {T sz : Nat} {xs : List (List AV)} {v : Value} (h : je cx I w (.sl T sz xs) v) (hle : br I I') (hI : ∀ b, blk v = some b → ∀ o, I' b o = snap w b o) : aD I' (.lst false xs) v := by
 rcases h with ⟨rfl, rfl⟩ | ⟨b, cap, arr, rfl, h2, h3, h4, h5, h6, h7, h8, h9⟩
 ·simp only [aD]
  exact ⟨none, 0, rfl, by simp, by simp [maxLen], by simp, .inl trivial⟩
 ·simp only [aD]
  refine ⟨_, cap, rfl, h2, h3, by simp, .inr ⟨b, 0, rfl, ?_⟩⟩
  have hcell : ∀ o : Nat, I' b o = arr[o]? := fun o => by rw [hI b rfl o]; simp [snap, World.cell?, h4]
  have key : ∀ (ys : List (List AV)) (off : Nat) (us : List Value), (∀ e ∈ ys, e.length = sz) → bH I ys.flatten us → (∀ j, j < us.length → arr[off + j]? = us[j]?) → cr I' b ys off := by
   intro ys
   induction ys with
   | nil => intro _ _ _ _ _; simp [cr]
   | cons y ys ih =>
    intro off us hy hr hu
    simp only [List.flatten_cons] at hr
    have row : ∀ (cs : List AV) (o : Nat) (rest : List AV) (us : List Value), bH I (cs ++ rest) us → (∀ j, j < us.length → arr[o + j]? = us[j]?) → fM I' b cs o ∧ ∃ us2, bH I rest us2 ∧ us = us.take cs.length ++ us2 ∧ us2 = us.drop cs.length := by
     intro cs
     induction cs with
     | nil => intro o rest us h _; exact ⟨by simp [fM], us, h, by simp, by simp⟩
     | cons c cs ih2 =>
      intro o rest us h hj
      simp only [List.cons_append, bH] at h
      obtain ⟨u, us', rfl, h1, h2⟩ := h
      obtain ⟨g1, us2, g2, g3, g4⟩ := ih2 (o + 1) rest us' h2 fun j hj' => by
       have := hj (j + 1) (by simpa using hj')
       simpa [Nat.add_assoc, Nat.add_comm 1] using this
      refine ⟨?_, us2, g2, by simpa using g3, by simpa using g4⟩
      simp only [fM]
      refine ⟨⟨u, ?_, cu hle c u h1⟩, g1⟩
      rw [hcell]
      simpa using hj 0 (by simp)
    obtain ⟨g1, us2, g2, g3, g4⟩ := row y off ys.flatten us hr hu
    simp only [cr]
    refine ⟨g1, ih (off + y.length) us2 (fun e he => hy e (List.mem_cons_of_mem _ he)) g2 fun j hj => ?_⟩
    subst g4
    have := hu (y.length + j) (by simp at hj; omega)
    rw [List.getElem?_drop, ← this, Nat.add_assoc]
  refine key xs 0 _ h7 h6 fun j hj => ?_
  rw [Nat.zero_add, List.getElem?_take]
  have hj : j < min (xs.length * sz) arr.size := by simpa using hj
  rw [if_pos (by omega)]; simp
/-- uN bw is there is taken at its word -/
theorem A.ex {c : Code} {Q : Exit → Env → Sto → Prop} {ι : Type} {bU : ι → Env} {σ2 : ι → Sto} (h : ∀ cx I β a w, bk G cx I β σ w → iI I β env a → ∃ i I' β', bk G cx I' β' (σ2 i) w ∧ iI I' β' (bU i) a) (k : ∀ i, ah G c Q (bU i) (σ2 i)) : ah G c Q env σ :=
 ah.of fun cx a w hr => by
  obtain ⟨I, β, h1, h2, h3, h4⟩ := hr
  obtain ⟨i, I', β', h5, h6⟩ := h cx I β a w h1 h2
  exact (k i).use cx a w ⟨I', β', h5, h6, h3, h4⟩
end weak
end Go.Proofs.Ytmfehenfoepkfaa

/- Ranging aab a map abm entries are known as zL lie; aeL. No condition but bR bw stand in each. -/
namespace Go.Proofs.Ytmfehenfoepkfaa
set_option linter.all false
open Go
open Go.ChangeMaps (setBlock)
/-! ### the plain word -/
def ko {α S : Type} (B : Int → α → S → Option S) : List (Int × α) → S → Option S
 | [], s => some s
 | p :: r, s => match B p.1 p.2 s with | none => none | some s' => ko B r s'
open Classical in
/-- each entry once: told only if no order tells sZ tale -/
noncomputable def aag {α S : Type} (l : List (Int × α)) (B : Int → α → S → Option S) (s : S) : Option S :=
 if ∀ l' : List (Int × α), l'.Perm l → ko B l' s = ko B l s then ko B l s else none
theorem aaS {α S : Type} {l : List (Int × α)} {B : Int → α → S → Option S} {s r : S} (h : aag l B s = some r) : (∀ l' : List (Int × α), l'.Perm l → ko B l' s = ko B l s) ∧ ko B l s = some r := by
 unfold aag at h
 split at h
 ·rename_i h1; exact ⟨h1, h⟩
 ·cases h
theorem rK {α S : Type} {B : Int → α → S → Option S} : ∀ (l l' : List (Int × α)) (s : S), ko B (l ++ l') s = (ko B l s).bind (ko B l')
 | [], _, _ => rfl
 | p :: r, l', s => by
  simp only [List.cons_append, ko]
  cases B p.1 p.2 s with
  | none => rfl
  | some s' => exact rK r l' s'
section
variable {G : Gl} {σ : Sto} {o : Oper} {ev : Operand → AV}
def bI.lie : bI → Option (Array MapEntry × Nat)
 | .iH es c _ _ _ => some (es, c)
 | .jd _ _ _ _ _ fx => fx
 | _ => none
theorem x2 {cx : Cx} {I : Imm} {β : Nat → Value} {w : World} (hw : bk G cx I β σ w) {dm clock : Nat} {om : bI} {es : Array MapEntry} (hd : σ.get dm = some om) (hl : om.lie = some (es, clock)) (hn : β dm ≠ .nilFunc) :
  ∃ bm, β dm = .map (some bm) ∧ w.heap[bm]? = some (.map es clock) ∧ jC es clock := by
 have h := hw.bK dm om hd
 cases om <;> simp only [bI.lie, reduceCtorEq] at hl
 ·cases hl
  simp only [az, hn, false_or] at h
  obtain ⟨r, q1, q2, q3, q4, q5, q6⟩ := h
  exact ⟨r, q1, q2, q6⟩
 ·simp only [az, hn, false_or] at h
  obtain ⟨r, es', clock', hs, as, q1, q2, q3, q4, q5, q6, q7, q8, q9⟩ := h
  cases q9 _ hl
  exact ⟨r, q1, q2, q8⟩
theorem D.range {T dm di K E clock : Nat} {x : Operand} {es : Array MapEntry} {om : bI} (h : o.op = .range T x) (hx : ev x = .cw dm) (hd : σ.get dm = some om) (hl : om.lie = some (es, clock)) (hT : G.P.underlying T = some (.map K E))
  (hi : G.ids.contains di = false) (hc : σ.clean [di].contains = true) : fS G o ev σ [di] [di] (fun r σ' => r = .ptr di 0 ∧ σ' = (di, .iter dm clock clock #[]) :: σ) := by
 intro cx I β w ρ hw hop
 have h1 := hop x (by simp [h, Op.operands]); rw [hx] at h1
 simp only [Rep] at h1
 obtain ⟨h1, h1m⟩ := h1
 have hdn : β dm ≠ .nilFunc := fun e => by rw [h1, e] at h1m; simp [oG] at h1m
 obtain ⟨bm, q1, q2, q3⟩ := x2 hw hd hl hdn
 have hdi : dm ≠ di := fun e => by
  have := (Sto.ck hc dm om hd).1
  simp [e] at this
 have hrun : (execOp ρ o).run G.P w = .ok (.value (.pointer (some ⟨w.heap.size, 0, none⟩))) (w.alloc (.mapIter (some bm) clock #[] clock)) := by
  simp [execOp, h, h1, q1, run_range_map w T K E bm es clock hT q2]
 rw [hrun]
 have hv := hw.rq (mat := [di]) (σ2 := σ) (env := []) ⟨fun _ _ => rfl, by simpa using hi, rfl, hc, fun x hx dm n h => by have := (Sto.ck hc x _ h).1; rw [List.contains_iff_mem.2 hx] at this; cases this⟩
 have hb : ∀ y, y ≠ di → eG (eB β [di]) di (.pointer (some ⟨w.heap.size, 0, none⟩)) y = β y := fun y hy => by rw [cq _ _ hy]; simp [eB, hy]
 have hbi : eG (eB β [di]) di (.pointer (some ⟨w.heap.size, 0, none⟩)) di = .pointer (some ⟨w.heap.size, 0, none⟩) := bT _ _ _
 refine ⟨.ptr di 0, _, I, eG (eB β [di]) di (.pointer (some ⟨w.heap.size, 0, none⟩)), ⟨rfl, rfl⟩, ?_, ?_, br.refl I, fun y hy => hb y (by simpa using hy), fun y hy => by rw [Sto.aR, if_neg (Ne.symm (by simpa using hy))]⟩
 ·simp only [Rep, hbi]
  exact ⟨w.heap.size, rfl, rfl⟩
 ·refine hv.turn (d := di) (Kept.alloc w _) (.inl hw.size) (fun x hx => by rw [Sto.aR, if_neg (Ne.symm hx)]) (fun x hx hs e => by
    obtain ⟨ob, hs⟩ := Option.isSome_iff_exists.1 hs
    exact absurd (hv.nH hs e) (by omega)) (br.refl I) (fun _ _ _ => rfl) (fun o' v' hv' => by rw [hw.cG (Nat.le_refl _)] at hv'; cases hv') (hw.cG (Nat.le_refl _) none)
   (fun x hx => cq _ _ hx) (.inl (by simpa using hi)) (HLe.upd (by simp [eB])) (.inl (by rw [hbi]; rfl)) fun ob hob => ?_
  rw [Sto.aR, if_pos rfl] at hob
  cases hob
  simp only [az, hbi, hb dm hdi, q1]
  exact .inr ⟨w.heap.size, bm, rfl, rfl, heap_alloc_new w _, fun o => hw.cG (Nat.le_refl _) o, .inl hw.size⟩
theorem D.next {dm di clock : Nat} {x : Operand} {es : Array MapEntry} {seen : Array Nat} {om : bI} (h : o.op = .next x false) (hx : ev x = .ptr di 0) (hi : σ.get di = some (.iter dm clock clock seen)) (hd : σ.get dm = some om) (hl : om.lie = some (es, clock)) :
  fS G o ev σ [di] [] (fun r σ' => ((leftOf es seen).size = 0 ∧ r = .tup [.bool false] ∧ σ' = σ) ∨ ∃ e ∈ (leftOf es seen).toList, r = .tup [.bool true, .eA, .eA] ∧ σ' = σ.set di (.iter dm clock clock (seen.push e.born))) := by
 intro cx I β w ρ hw hop
 have h1 := hop x (by simp [h, Op.operands]); rw [hx] at h1
 simp only [Rep] at h1
 obtain ⟨b, h1, h2⟩ := h1
 have hin : β di ≠ .nilFunc := fun e => by rw [e] at h1; cases h1
 have hit := hw.bK di _ hi
 simp only [az, hin, false_or] at hit
 obtain ⟨r, bm, q1, q2, q3, q4, q5⟩ := hit
 have hbr : b = r := by rw [q1] at h1; simpa [blk] using h1.symm
 subst hbr
 have hdn : β dm ≠ .nilFunc := fun e => by rw [e] at q2; cases q2
 obtain ⟨bm', p1, p2, p3⟩ := x2 hw hd hl hdn
 have : bm' = bm := by rw [p1] at q2; simpa [blk] using q2
 subst this
 rcases run_next_at (P := G.P) w o.type b bm' clock clock seen es clock q3 p2 p3.2 (Nat.le_refl _) with ⟨s1, s2⟩ | ⟨e, s1, w1, s2, s3⟩
 ·have hrun : (execOp ρ o).run G.P w = .ok (.value (.tuple #[.bool false])) w := by simp [execOp, h, h2, s2]
  rw [hrun]
  refine ⟨.tup [.bool false], σ, I, β, .inl ⟨s1, rfl, rfl⟩, ?_, hw, br.refl I, fun _ _ => rfl, fun _ _ => rfl⟩
  simp [Rep, bg, aD]
 ·have hrun : (execOp ρ o).run G.P w = .ok (.value (.tuple #[.bool true, e.key, e.val])) (setBlock w1 b (.mapIter (some bm') clock (seen.push e.born) clock)) := by simp [execOp, h, h2, s3]
  rw [hrun]
  refine ⟨.tup [.bool true, .eA, .eA], σ.set di (.iter dm clock clock (seen.push e.born)), I, β, .inr ⟨e, s1, rfl, rfl⟩, ?_, ?_, br.refl I, fun _ _ => rfl, fun y hy => by rw [Sto.dU, if_neg (by simpa using hy)]⟩
  ·simp only [Rep, bg, aD]
   exact ⟨_, rfl, _, _, rfl, rfl, _, _, rfl, trivial, _, _, rfl, trivial, rfl⟩
  ·have hk : Kept w (setBlock w1 b (.mapIter (some bm') clock (seen.push e.born) clock)) b := by
    rcases s2 with rfl | rfl
    ·exact Kept.setObj _ b _
    ·exact Kept.drew (Kept.setObj _ b _)
   have hbd : blk (β di) = some b := h1
   have hh : (setBlock w1 b (.mapIter (some bm') clock (seen.push e.born) clock)).heap[b]? = some (.mapIter (some bm') clock (seen.push e.born) clock) := by
    have hlt := bX q3
    have : w1.heap = w.heap := by rcases s2 with rfl | rfl <;> rfl
    simp [setBlock, this, Array.getElem?_setIfInBounds, hlt]
   refine hw.turn (d := di) hk q5 (fun x hx => by rw [Sto.dU, if_neg hx]) (fun x hx hs e' => hw.bY x di hs (by rw [hi]; rfl) hx b e' (dQ hbd)) (br.refl I) (fun _ _ _ => rfl)
    (fun o v hv => by rw [q4 o] at hv; cases hv) (q4 none) (fun _ _ => rfl) (.inr rfl) (HLe.refl β) (.inl hbd) fun ob hob => ?_
   rw [Sto.dU, if_pos rfl, hi] at hob
   injection hob with hob
   subst hob
   simp only [az]
   exact .inr ⟨b, bm', q1, q2, hh, q4, q5⟩
theorem aah {I : Imm} : ∀ {aW : List (AV × AV)} {es : List MapEntry} {i : Nat} {a c : AV} {e : MapEntry}, dx I aW es → aW[i]? = some (a, c) → es[i]? = some e → aD I a e.key ∧ aD I c e.val
 | [], _, i, _, _, _, _, h, _ => by simp at h
 | (k, v) :: r, _, i, a, c, e, h, ha, he => by
  simp only [dx] at h
  obtain ⟨f, us, rfl, h1, h2, h3⟩ := h
  cases i with
  | zero => simp at ha he; obtain ⟨rfl, rfl⟩ := ha; subst he; exact ⟨h1, h2⟩
  | succ i => simp at ha he; exact aah h3 ha he
theorem acX {cx : Cx} {I : Imm} {β : Nat → Value} {w : World} {ρ : Operand → Value} {dm di clock i : Nat} {x : Operand} {es : Array MapEntry} {seen : Array Nat} {om : bI} {e : MapEntry} (hw : bk G cx I β σ w) (h : o.op = .entry x) (h1 : Rep I β (.ptr di 0) (ρ x))
  (hi : σ.get di = some (.iter dm clock clock (seen.push e.born))) (hd : σ.get dm = some om) (hl : om.lie = some (es, clock)) (he : es[i]? = some e) : (execOp ρ o).run G.P w = .ok (.value (.tuple #[e.key, e.val])) w ∧ β dm ≠ .nilFunc := by
 simp only [Rep] at h1
 obtain ⟨b, h1, h2⟩ := h1
 have hin : β di ≠ .nilFunc := fun e => by rw [e] at h1; cases h1
 have hit := hw.bK di _ hi
 simp only [az, hin, false_or] at hit
 obtain ⟨r, bm, q1, q2, q3, q4, q5⟩ := hit
 have hbr : b = r := by rw [q1] at h1; simpa [blk] using h1.symm
 subst hbr
 have hdn : β dm ≠ .nilFunc := fun e => by rw [e] at q2; cases q2
 obtain ⟨bm', p1, p2, p3⟩ := x2 hw hd hl hdn
 have : bm' = bm := by rw [p1] at q2; simpa [blk] using q2
 subst this
 have hmem : e ∈ es.toList := by
  have : es.toList[i]? = some e := by simpa using he
  exact List.mem_of_getElem? this
 exact ⟨by simp [execOp, h, h2, run_entry_at (P := G.P) w b bm' clock seen es clock e q3 p2 hmem p3.1], hdn⟩
/-- the entry of an own map -/
theorem Y.aj3 {α : Type} {dm di clock i K E : Nat} {k : IntKind} {x : Operand} {es : Array MapEntry} {seen : Array Nat} {e : MapEntry} {n : Int} {v : α} (l : List (Int × α)) (enc : α → AV) (h : o.op = .entry x) (hx : ev x = .ptr di 0) (hi : σ.get di = some (.iter dm clock clock (seen.push e.born)))
  (hd : σ.get dm = some (.iH es clock K E (cD k enc l))) (he : es[i]? = some e) (hn : l[i]? = some (n, v)) : Yields G o ev σ [] [di, dm] (.tup [.int k n, enc v]) :=
 .pure fun σ' cx I β w ρ hR hw hop => by
  have h1 := hop x (by simp [h, Op.operands]); rw [hx] at h1
  have hd' : σ'.get dm = some (.iH es clock K E (cD k enc l)) := by rw [hR dm (by simp)]; exact hd
  obtain ⟨r1, r2⟩ := acX hw h h1 (by rw [hR di (by simp)]; exact hi) hd' rfl he
  refine ⟨_, r1, ?_⟩
  have ho := hw.bK dm _ hd'
  simp only [az, r2, false_or] at ho
  obtain ⟨r, q1, q2, q3, _⟩ := ho
  obtain ⟨s1, s2⟩ := aah q3 (i := i) (a := .int k n) (c := enc v) (e := e) (by simp [cD, hn]) (by simpa using he)
  simp only [Rep, bg]
  exact ⟨_, rfl, e.key, [e.val], rfl, s1, e.val, [], rfl, aD.rep β _ _ s2, rfl⟩
/-! ### aeL -/
def tV {α : Type} (l : List (Int × α)) (n : Int) : List (Int × α) := match l with
 | [] => []
 | p :: r => if p.1 = n then r else p :: tV r n
theorem uB {I : Imm} {α : Type} {k : IntKind} {enc : α → AV} (n : Int) : ∀ (l : List (Int × α)) (es : List MapEntry) (i : Nat) (a : α), dx I (cD k enc l) es → cB l n = some a →
  ∃ j v, Instr.findNow (.int k) (.int k n) es i = some (some (i + j, v)) ∧ j < es.length ∧ dx I (cD k enc (tV l n)) (es.eraseIdx j)
 | [], es, i, a, h, hg => by simp [cB] at hg
 | (m, b) :: r, es, i, a, h, hg => by
  simp only [cD, List.map_cons, dx] at h
  obtain ⟨e, us, rfl, h3, h4, h5⟩ := h
  simp only [aD] at h3
  rw [zh] at hg
  by_cases hm : m = n
  ·subst hm
   refine ⟨0, e.val, by simp [Instr.findNow, Instr.sameNow, h3], by simp, ?_⟩
   simp only [tV, if_true, List.eraseIdx_cons_zero]; exact h5
  ·rw [if_neg hm] at hg
   obtain ⟨j, v, q1, q2, q3⟩ := uB n r us (i + 1) a h5 hg
   refine ⟨j + 1, v, ?_, by simpa using q2, ?_⟩
   ·simp only [Instr.findNow, Instr.sameNow, h3, if_pos]
    have : (n == m) = false := by simpa using fun e => hm e.symm
    rw [this]
    simp only
    rw [q1]
    simp [Nat.add_assoc, Nat.add_comm 1]
   ·simp only [tV, hm, if_false, List.eraseIdx_cons_succ, cD, List.map_cons, dx]
    exact ⟨e, _, rfl, by simp only [aD]; exact h3, h4, q3⟩
theorem zi {α : Type} : ∀ {l : List (Int × α)} {n : Int}, cB l n = none → tV l n = l
 | [], _, _ => rfl
 | p :: r, n, h => by
  rw [zh] at h
  split at h
  ·cases h
  ·rename_i hp; simp only [tV, if_neg hp, zi h]
theorem jC.erase {es : Array MapEntry} {clock : Nat} (h : jC es clock) (j : Nat) : jC (es.eraseIdxIfInBounds j) clock := by
 obtain ⟨h1, h2⟩ := h
 have e : (es.eraseIdxIfInBounds j).toList = es.toList.eraseIdx j := by simp
 refine ⟨?_, fun x hx => h2 x ?_⟩
 ·rw [e, ChangeMaps.map_eraseIdx]; exact h1.sublist (List.eraseIdx_sublist _ _)
 ·rw [e] at hx; exact (List.eraseIdx_sublist _ _).subset hx
theorem D.acY {α : Type} {T K E d : Nat} {k : IntKind} {x y : Operand} {n : Int} (l : List (Int × α)) (enc : α → AV) (h : o.op = .call ⟨.builtin .delete, #[x, y], #[T, K]⟩) (hx : ev x = .cw d) (hy : ev y = .int k n)
  (hd : σ.get d = some (.map K E (cD k enc l))) (hT : qm G.P T K E k) :
  fS G o ev σ [d] [] (fun r σ' => r = .tup [] ∧ σ' = σ.set d (.map K E (cD k enc (tV l n)))) := by
 intro cx I β w ρ hw hop
 have h1 := hop x (by simp [h, Op.operands, Call.operands]); rw [hx] at h1
 have h2 := hop y (by simp [h, Op.operands, Call.operands]); rw [hy] at h2; have h2 := dH h2
 obtain ⟨r, es, clock, q0, q1, q2, q3, q4, q5, q6⟩ := qC hw hd h1
 have e1 : ∀ w, (underlying T).run G.P w = .ok (.map K E) w := fun w => by simp [underlying, program, Sem.run, hT.und]
 have e2 : ∀ w, (underlying K).run G.P w = .ok (.int k) w := fun w => by simp [underlying, program, Sem.run, hT.key]
 have e3 := lZ (P := G.P) q2
 have e4 := qn (P := G.P) hT.key (es.isEmpty) n w
 have ic : ∀ ob : Obj, (setObj r ob).run G.P w = .ok () { w with heap := w.heap.setIfInBounds r ob } := fun ob => by simp [setObj, Sem.run, q2]
 have main : ∃ es', (execOp ρ o).run G.P w = .ok (.value (.tuple #[])) { w with heap := w.heap.setIfInBounds r (.map es' clock) } ∧ dx I (cD k enc (tV l n)) es'.toList ∧ jC es' clock := by
  cases hg : cB l n with
  | none =>
   obtain ⟨p1, p2⟩ := oU n l es.toList 0 q3 hg
   have e5 : (Instr.findKey K (.int k n) es.toList).run G.P w = .ok none w := by simp [Instr.findKey, e2, p1]
   refine ⟨es, by simp [execOp, h, resolve, invoke, builtin, Builtin.delete_, q0, h2, e1, e3, e4, e5, ic], ?_, q6⟩
   rw [zi hg]; exact q3
  | some a =>
   obtain ⟨j, u, p1, p2, p3⟩ := uB n l es.toList 0 a q3 hg
   have e5 : (Instr.findKey K (.int k n) es.toList).run G.P w = .ok (some (0 + j, u)) w := by simp [Instr.findKey, e2, p1]
   refine ⟨es.eraseIdxIfInBounds j, by simp [execOp, h, resolve, invoke, builtin, Builtin.delete_, q0, h2, e1, e3, e4, e5, ic], ?_, q6.erase j⟩
   simpa using p3
 obtain ⟨es', hrun, hE, hB⟩ := main
 rw [hrun]
 refine ⟨.tup [], _, I, β, ⟨rfl, rfl⟩, by simp [Rep, bg], ?_, br.refl I, fun _ _ => rfl, fun x hx => by rw [Sto.dU, if_neg (by simpa using hx)]⟩
 have hbd : blk (β d) = some r := by rw [q1]; rfl
 refine hw.turn (d := d) (Kept.setObj w r _) q5 (fun x hx => by rw [Sto.dU, if_neg hx]) (fun x hx hs e => hw.bY x d hs (by rw [hd]; rfl) hx r e (dQ hbd)) (br.refl I) (fun _ _ _ => rfl)
  (fun o v hv => by rw [q4 o] at hv; cases hv) (q4 none) (fun _ _ => rfl) (.inr rfl) (HLe.refl β) (.inl hbd) fun ob hob => ?_
 rw [Sto.dU, if_pos rfl, hd] at hob
 injection hob with hob
 subst hob
 simp only [az]
 exact .inr ⟨r, es', clock, q1, by have := bX q2; simp [Array.getElem?_setIfInBounds, this], hE, q4, q5, hB⟩
/-! ### the loop -/
theorem A.know {c : Code} {Q : Exit → Env → Sto → Prop} {env : Env} {F : Prop} (h : ∀ cx I β a w, bk G cx I β σ w → iI I β env a → F) (k : F → ah G c Q env σ) : ah G c Q env σ :=
 ah.of fun cx a w hr => by
  obtain ⟨I, β, h1, h2, h3, h4⟩ := hr
  exact (k (h cx I β a w h1 h2)).use cx a w ⟨I, β, h1, h2, h3, h4⟩
def sel {α : Type} (l : List (Int × α)) (p : List Nat) : List (Int × α) := p.filterMap fun i => l[i]?
theorem zj {α : Type} (l : List (Int × α)) : sel l (List.range l.length) = l := by
 have : ∀ (n : Nat), n ≤ l.length → sel l (List.range n) = l.take n := by
  intro n
  induction n with
  | zero => intro _; simp [sel]
  | succ n ih =>
   intro hn
   rw [List.range_succ]
   simp only [sel, List.filterMap_append, List.filterMap_cons, List.filterMap_nil] at ih ⊢
   rw [ih (by omega), List.getElem?_eq_getElem (by omega)]
   simp only
   rw [List.take_succ, List.getElem?_eq_getElem (by omega)]
   rfl
 rw [this _ (Nat.le_refl _), List.take_length]
theorem x3 {p : List Nat} {n : Nat} (h1 : p.Nodup) (h2 : ∀ i, i ∈ p ↔ i < n) : p.Perm (List.range n) :=
 (List.perm_ext_iff_of_nodup h1 List.nodup_range).2 fun i => by rw [List.mem_range]; exact h2 i
theorem A.rng {S α : Type} {env : Env} {Q : Exit → Env → Sto → Prop} {l : List (Int × α)} {B : Int → α → S → Option S} {g0 r : S} (hm : aag l B g0 = some r) {id b t1 t2 it dm di clock : Nat} {es : Array MapEntry} {o1 o2 : Oper} {y : Code}
  (inv : S → Prop) (cR : S → Env) (ep : Array Nat → S → Sto) (ho1 : o1.op = .next (.tmp it) false ∧ o1.dst = some t1 ∧ o1.guard = none) (ho2 : o2.op = .extract (.tmp t1) 0 ∧ o2.dst = some t2 ∧ o2.guard = none) (hd : xJ G.N #[o1, o2] = true)
  (h0 : inv g0) (hinv : ∀ n v g g', B n v g = some g' → inv g → inv g') (hit : ∀ g, (cR g).get it = .ptr di 0) (hsi : ∀ seen g, (ep seen g).get di = some (.iter dm clock clock seen)) (hsl : ∀ seen g, ∃ om, (ep seen g).get dm = some om ∧ om.lie = some (es, clock))
  (ic : ∀ seen g s', (ep seen g).set di (.iter dm clock clock s') = ep s' g) (hlen : ∀ seen g, inv g → ∀ cx I β w, bk G cx I β (ep seen g) w → β dm ≠ .nilFunc → es.size = l.length)
  (hw : bp G env σ (cR g0) (ep #[] g0))
  (body : ∀ (seen : Array Nat) (e : MapEntry) (i : Nat) (n : Int) (v : α) (g g' : S), es[i]? = some e → l[i]? = some (n, v) → inv g → B n v g = some g' →
   ah G y (qA (fun env' σ' => bp G env' σ' (cR g') (ep (seen.push e.born) g')) Q) ((t2, .bool true) :: (t1, .tup [.bool true, .eA, .eA]) :: cR g) (ep (seen.push e.born) g))
  (out : ∀ seen, Q (.exit b) ((t2, .bool false) :: (t1, .tup [.bool false]) :: cR r) (ep seen r)) :
  ah G (.loop (.seq (.region id #[o1, o2] false) (.seq (.cond (.tmp t2) .skip (.exit b)) y))) Q env σ := by
 obtain ⟨m1, m2⟩ := aaS hm
 refine A.loop (α := Array Nat × S) (fun s => cR s.2) (fun s => ep s.1 s.2) (fun s => inv s.2 ∧ ∃ p : List Nat, p.Nodup ∧ (∀ i ∈ p, i < l.length) ∧ (∀ (i : Nat) (e : MapEntry), es[i]? = some e → (s.1.contains e.born = true ↔ i ∈ p)) ∧ ko B (sel l p) g0 = some s.2)
  (fun s => (leftOf es s.1).size) (#[], g0) ⟨h0, [], List.nodup_nil, by simp, by simp, rfl⟩ hw ?_
 rintro ⟨seen, g⟩ ⟨hi, p, p1, p2, p3, p4⟩
 refine A.know (F := es.size = l.length ∧ (es.toList.map (·.born)).Nodup) (fun cx I β a w hW hT => ?_) fun ⟨f1, f2⟩ => ?_
 ·have h1 := hT it
  rw [show (cR (seen, g).2).get it = .ptr di 0 from hit g] at h1
  simp only [Rep] at h1
  obtain ⟨b, h1, _⟩ := h1
  have hin : β di ≠ .nilFunc := fun e => by rw [e] at h1; cases h1
  have ho := hW.bK di _ (hsi seen g)
  simp only [az, hin, false_or] at ho
  obtain ⟨r, bm, q1, q2, _⟩ := ho
  have hdn : β dm ≠ .nilFunc := fun e => by rw [e] at q2; cases q2
  obtain ⟨om, s1, s2⟩ := hsl seen g
  obtain ⟨_, _, _, s3⟩ := x2 hW s1 s2 hdn
  exact ⟨hlen seen g hi cx I β w hW hdn, s3.1⟩
 obtain ⟨om, s1, s2⟩ := hsl seen g
 have h21 : Env.get ((t2, .bool true) :: (t1, .tup [.bool true, .eA, .eA]) :: cR g) t2 = .bool true := by rw [Env.aR, if_pos rfl]
 have h20 : Env.get ((t2, .bool false) :: (t1, .tup [.bool false]) :: cR g) t2 = .bool false := by rw [Env.aR, if_pos rfl]
 refine A.seq (A.region hd ?_)
 show Cert G #[o1, o2] ⟨false, [], []⟩ [] [0, 1] (cR g) (ep seen g) _
 refine ⟨o1, rfl, .inr (.inr (.inl ⟨by simp only [Want, ho1.2.2], by simp, [di], [], _, D.next (x := .tmp it) ho1.1 (hit g) (hsi seen g) s1 s2, by simp, Env.jL _, by simp, fun av σ' hav => ?_⟩))⟩
 have ext : ∀ (vs : List AV) (bb : Bool) (σ' : Sto) (K : Env → Sto → Prop), vs[0]? = some (.bool bb) → K ((t2, .bool bb) :: (t1, .tup vs) :: cR g) σ' → Cert G #[o1, o2] ⟨false, [], []⟩ [] [1] ((cR g).put o1.dst (.tup vs)) σ' K := fun vs bb σ' K hv hK => by
  refine ⟨o2, rfl, .inr (.inl ⟨by simp only [Want, ho2.2.2], by simp, [], [], .bool bb, σ', uJ.none _ _ _, by simp, by simp, Y.extract (x := .tmp t1) ho2.1 (by rw [ho1.2.1]; show Env.get _ _ = _; rw [Env.put, Env.aR, if_pos rfl]) hv, ?_⟩)⟩
  rw [ho1.2.1, ho2.2.1]
  exact hK
 rcases hav with ⟨u1, rfl, rfl⟩ | ⟨e, u1, rfl, rfl⟩
 ·refine ext _ false _ _ rfl ?_
  -- all are seen: the tale is r
  have hall : ∀ i, i ∈ p ↔ i < l.length := fun i => ⟨p2 i, fun hlt => by
   have hlt' : i < es.size := by omega
   refine (p3 i es[i] (Array.getElem?_eq_getElem hlt')).1 ?_
   by_cases hc : seen.contains es[i].born = true
   ·exact hc
   ·exfalso
    have : es[i] ∈ leftOf es seen := by
     unfold leftOf
     rw [Array.mem_filter]
     exact ⟨Array.getElem_mem hlt', by simpa using hc⟩
    have : leftOf es seen ≠ #[] := fun e => by rw [e] at this; simp at this
    exact this (Array.eq_empty_of_size_eq_zero u1)⟩
  have hp : (sel l p).Perm l := by
   have := (x3 p1 hall).filterMap fun i => l[i]?
   have e2 := zj l
   unfold sel at e2 ⊢
   rwa [e2] at this
  have hg : g = r := by
   have := m1 _ hp
   rw [m2, p4] at this
   exact Option.some.inj this
  subst hg
  refine A.seq (A.cond (b := false) h20 (fun h => by cases h) fun _ => A.exit ?_)
  exact out seen
 ·refine ext _ true _ _ rfl ?_
  rw [ic seen g]
  obtain ⟨v1, v2⟩ := mem_left u1
  obtain ⟨i, hi1⟩ := List.getElem?_of_mem v1
  have hi1 : es[i]? = some e := by simpa using hi1
  have hil : i < l.length := by have := (Array.getElem?_eq_some_iff.1 hi1).1; omega
  have hip : i ∉ p := fun h => by
   have := (p3 i e hi1).2 h
   rw [v2] at this; cases this
  have hli : l[i]? = some (l[i].1, l[i].2) := List.getElem?_eq_getElem hil
  have hnd : (p ++ [i]).Nodup := by
   rw [List.nodup_append]
   exact ⟨p1, by simp, fun a ha c hc => by simp only [List.mem_singleton] at hc; subst hc; exact fun e => hip (e ▸ ha)⟩
  have aj4 : ∀ j ∈ p ++ [i], j < l.length := fun j hj => by
   rcases List.mem_append.1 hj with hj | hj
   ·exact p2 j hj
   ·rw [List.mem_singleton.1 hj]; exact hil
  -- what comes of this round
  have hg' : ∃ g', B l[i].1 l[i].2 g = some g' ∧ ko B (sel l (p ++ [i])) g0 = some g' := by
   have e1 : sel l (p ++ [i]) = sel l p ++ [(l[i].1, l[i].2)] := by
    unfold sel
    rw [List.filterMap_append]
    simp [List.filterMap_cons, List.getElem?_eq_getElem hil]
   have e2 : ko B (sel l (p ++ [i])) g0 = B l[i].1 l[i].2 g := by
    rw [e1, rK, p4]
    simp only [Option.bind_some, ko]
    cases B l[i].1 l[i].2 g <;> rfl
   have full : (p ++ [i] ++ (List.range l.length).filter fun j => !(p ++ [i]).contains j).Perm (List.range l.length) := by
    refine x3 ?_ fun j => ?_
    ·rw [List.nodup_append]
     refine ⟨hnd, List.nodup_range.filter _, fun a ha c hc e => ?_⟩
     subst e
     have := (List.mem_filter.1 hc).2
     simp only [Bool.not_eq_true', List.contains_eq_mem, decide_eq_false_iff_not] at this
     exact this ha
    ·rw [List.mem_append, List.mem_filter, List.mem_range]
     constructor
     ·rintro (h | h)
      ·exact aj4 j h
      ·exact h.1
     ·intro h
      by_cases hj : j ∈ p ++ [i]
      ·exact .inl hj
      ·exact .inr ⟨h, by simpa using hj⟩
   have hp2 := full.filterMap fun i => l[i]?
   have e3 := zj l
   unfold sel at e3
   rw [e3, List.filterMap_append] at hp2
   have h3 := m1 _ hp2
   rw [m2, rK] at h3
   cases hf : ko B (sel l (p ++ [i])) g0 with
   | none => unfold sel at hf; rw [hf] at h3; cases h3
   | some g' => exact ⟨g', by rw [← e2]; exact hf, rfl⟩
  obtain ⟨g', w1, w2⟩ := hg'
  refine A.seq (A.cond (b := true) h21 (fun _ => A.skip ?_) fun h => by cases h)
  refine (body seen e i l[i].1 l[i].2 g g' hi1 hli hi w1).mono fun ex env' σ' hq => ?_
  cases ex with
  | normal =>
   refine ⟨(seen.push e.born, g'), ⟨hinv _ _ _ _ w1 hi, p ++ [i], hnd, aj4, fun j e' hj => ?_, w2⟩, left_shrinks es seen e u1, hq⟩
   rw [contains_push, Bool.or_eq_true, beq_iff_eq, p3 j e' hj, List.mem_append, List.mem_singleton]
   constructor
   ·rintro (h | h)
    ·exact .inl h
    ·right
     have hj' : es.toList[j]? = some e' := by simpa using hj
     have hi' : es.toList[i]? = some e := by simpa using hi1
     have hjl := (List.getElem?_eq_some_iff.1 hj').1
     have hilt := (List.getElem?_eq_some_iff.1 hi').1
     have g1 := (List.getElem?_eq_some_iff.1 hj').2
     have g2 := (List.getElem?_eq_some_iff.1 hi').2
     have pw := List.pairwise_iff_getElem.1 f2
     rcases Nat.lt_trichotomy j i with q | q | q
     ·refine absurd ?_ (pw j i (by simpa using hjl) (by simpa using hilt) q)
      rw [List.getElem_map, List.getElem_map, g1, g2, h]
     ·exact q
     ·refine absurd ?_ (pw i j (by simpa using hilt) (by simpa using hjl) q)
      rw [List.getElem_map, List.getElem_map, g1, g2, h]
   ·rintro (h | h)
    ·exact .inl h
    ·subst h
     rw [hj] at hi1; cases hi1; exact .inr rfl
  | exit id => exact hq
  | goto l => exact hq
  | ret => exact hq
  | panic c => exact hq
  | outgrown => exact hq
end
end Go.Proofs.Ytmfehenfoepkfaa

/- Steps on maps of rows, on maps bw no acC turn or are aj5 aab. No condition but bR bw stand in each. -/
namespace Go.Proofs.Ytmfehenfoepkfaa
set_option linter.all false
open Go
theorem zB {P : Program} {E : Nat} (h : ∀ w, (zeroValue E).run P w = .ok (.bool false) w) : ∀ w, ∃ v, (zeroValue E).run P w = .ok v w ∧ ∀ I, aD I (vB false) v := fun w => ⟨_, h w, fun I => by simp [vB, aD]⟩
section
variable {P : Program}
/-- a lookup in a map bw no acC turns, or is aj5 aab -/
def lfF {α : Type} (T0 : Nat) (k : IntKind) (l : List (Int × α)) (n : Int) (enc : α → AV) (z : α) (op : Op) (env : Env) (σ : Sto) : Option (Stp × Obs) := match op with
 | .lookup T x y ok => (match env.evo x with
  | some (.mpf aW) => (match env.evo y with
   | some (.int k' n') => bif Nat.beq T T0 then some (.y [] (bif ok then .tup [enc ((cB l n).getD z), .bool (cB l n).isSome] else enc ((cB l n).getD z)), ([.mpf aW, .int k' n'], [])) else none
   | _ => none)
  | some (.cw d) => (match env.evo y with
   | some (.int k' n') => (match σ.get d with
    | some (.iH es clock K E aW) => bif Nat.beq T T0 then some (.y [d] (bif ok then .tup [enc ((cB l n).getD z), .bool (cB l n).isSome] else enc ((cB l n).getD z)), ([.mpf aW, .int k' n'], [])) else none
    | _ => none)
   | _ => none)
  | _ => none)
 | _ => none
theorem Y.aeM {G : Gl} {o : Oper} {ev : Operand → AV} {σ : Sto} {α : Type} {T K E K' E' d : Nat} {es : Array MapEntry} {clock : Nat} {k : IntKind} {x y : Operand} {ok : Bool} {n : Int} (l : List (Int × α)) (enc : α → AV) (z : α) (h : o.op = .lookup T x y ok) (hx : ev x = .cw d) (hy : ev y = .int k n) (hd : σ.get d = some (.iH es clock K' E' (cD k enc l)))
  (hT : qm G.P T K E k) (hz : ∀ w, ∃ v, (zeroValue E).run G.P w = .ok v w ∧ ∀ I, aD I (enc z) v) :
  Yields G o ev σ [] [d] (bif ok then .tup [enc ((cB l n).getD z), .bool (cB l n).isSome] else enc ((cB l n).getD z)) :=
 .pure fun σ' cx I β w ρ hR hw hop => by
  have h1 := hop x (by simp [h, Op.operands]); rw [hx] at h1
  have h2 := hop y (by simp [h, Op.operands]); rw [hy] at h2; have h2 := dH h2
  exact tI l enc z h (adt hw (by rw [hR d (by simp)]; exact hd) h1) h2 hT hz
theorem aj6 {α : Type} {T0 K0 E0 : Nat} {k : IntKind} {l : List (Int × α)} {n : Int} {enc : α → AV} {z : α} (hT : qm P T0 K0 E0 k) (hz : ∀ w, ∃ v, (zeroValue E0).run P w = .ok v w ∧ ∀ I, aD I (enc z) v) {o : Oper} {N : Nat} {ids : List Nat} {env : Env} {σ : Sto} {s : Stp} {ob : Obs}
  (h : lfF T0 k l n enc z o.op env σ = some (s, ob)) (he : ob = ([.mpf (cD k enc l), .int k n], [])) : dy ⟨P, N, ids⟩ o env σ s := by
 cases ho : o.op <;> rw [ho] at h
 case lookup T x y ok =>
  simp only [lfF] at h
  split at h
  ·rename_i aW hx
   split at h
   ·rename_i k' n' hy
    cases hb : Nat.beq T T0 with
    | false => rw [hb] at h; cases h
    | true =>
     rw [hb] at h
     have := Nat.eq_of_beq_eq_true hb
     subst this
     cases h
     simp only [Prod.mk.injEq, List.cons.injEq, AV.int.injEq, AV.mpf.injEq, and_true] at he
     obtain ⟨rfl, rfl, rfl⟩ := he
     exact Y.agl l enc z ho (Env.aM hx) (Env.aM hy) hT hz
   ·cases h
  ·rename_i d hx
   split at h
   ·rename_i k' n' hy
    split at h
    ·rename_i es clock K E aW hd
     cases hb : Nat.beq T T0 with
     | false => rw [hb] at h; cases h
     | true =>
      rw [hb] at h
      have := Nat.eq_of_beq_eq_true hb
      subst this
      cases h
      simp only [Prod.mk.injEq, List.cons.injEq, AV.int.injEq, AV.mpf.injEq, and_true] at he
      obtain ⟨rfl, rfl, rfl⟩ := he
      exact Y.aeM l enc z ho (Env.aM hx) (Env.aM hy) hd hT hz
    ·cases h
   ·cases h
  ·cases h
 all_goals (simp only [lfF] at h; cases h)
def hlf {α : Type} {T0 K0 E0 : Nat} {k : IntKind} (l : List (Int × α)) (n : Int) (enc : α → AV) (z : α) (hT : qm P T0 K0 E0 k) (hz : ∀ w, ∃ v, (zeroValue E0).run P w = .ok v w ∧ ∀ I, aD I (enc z) v) : Hint P :=
 .gs false ([.mpf (cD k enc l), .int k n], []) (fun _ => lfF T0 k l n enc z) fun _ _ _ _ _ _ _ h he => aj6 hT hz h he
/-- an entry deleted -/
def deF {α : Type} (T0 K0 : Nat) (k : IntKind) (l : List (Int × α)) (n : Int) (enc : α → AV) (op : Op) (env : Env) (σ : Sto) : Option (Stp × Obs) := match op with
 | .call c => (match c.callee with
  | .builtin b => (match b with
   | .delete => (match c.args.toList with
    | [x, y] => (match c.argTypes.toList with
     | [T, K] => (match env.evo x with
      | some (.cw d) => (match env.evo y with
       | some (.int k' n') => (match σ.get d with
        | some (.map K' E aW) => bif Nat.beq T T0 && Nat.beq K K0 && Nat.beq K' K0 then some (.e [d] [] (.tup []) (σ.set d (.map K' E (cD k enc (tV l n)))), ([.mpf aW, .int k' n'], [(0, .cells E [])])) else none
        | _ => none)
       | _ => none)
      | _ => none)
     | _ => none)
    | _ => none)
   | _ => none)
  | _ => none)
 | _ => none
theorem aj7 {α : Type} {T0 K0 E0 : Nat} {k : IntKind} {l : List (Int × α)} {n : Int} {enc : α → AV} (hT : qm P T0 K0 E0 k) {o : Oper} {N : Nat} {ids : List Nat} {env : Env} {σ : Sto} {s : Stp} {ob : Obs}
  (h : deF T0 K0 k l n enc o.op env σ = some (s, ob)) (he : ob = ([.mpf (cD k enc l), .int k n], [(0, .cells E0 [])])) : dy ⟨P, N, ids⟩ o env σ s := by
 cases ho : o.op <;> rw [ho] at h
 case call c =>
  obtain ⟨cl, args, tys⟩ := c
  simp only [deF] at h
  split at h
  ·rename_i b
   split at h
   ·split at h
    ·rename_i x y hargs
     have : args = #[x, y] := Array.toList_inj.1 (by simpa using hargs)
     subst this
     split at h
     ·rename_i T K aeN
      have : tys = #[T, K] := Array.toList_inj.1 (by simpa using aeN)
      subst this
      split at h
      ·rename_i d hx
       split at h
       ·rename_i k' n' hy
        split at h
        ·rename_i K' E aW hd
         cases hb : (Nat.beq T T0 && Nat.beq K K0 && Nat.beq K' K0) with
         | false => rw [hb] at h; cases h
         | true =>
          rw [hb] at h
          simp only [Bool.and_eq_true] at hb
          obtain ⟨⟨b1, b2⟩, b3⟩ := hb
          have := Nat.eq_of_beq_eq_true b1
          subst this
          have := Nat.eq_of_beq_eq_true b2
          subst this
          have := Nat.eq_of_beq_eq_true b3
          subst this
          cases h
          simp only [Prod.mk.injEq, List.cons.injEq, AV.int.injEq, AV.mpf.injEq, bI.cells.injEq, and_true, true_and] at he
          obtain ⟨⟨rfl, rfl, rfl⟩, rfl⟩ := he
          exact ⟨D.acY l enc ho (Env.aM hx) (Env.aM hy) hd hT, rfl⟩
        ·cases h
       ·cases h
      ·cases h
     ·cases h
    ·cases h
   ·cases h
  ·cases h
 all_goals (simp only [deF] at h; cases h)
def hde {α : Type} {T0 K0 E0 : Nat} {k : IntKind} (l : List (Int × α)) (n : Int) (enc : α → AV) (hT : qm P T0 K0 E0 k) : Hint P :=
 .gs true ([.mpf (cD k enc l), .int k n], [(0, .cells E0 [])]) (fun _ => deF T0 K0 k l n enc) fun _ _ _ _ _ _ _ h he => aj7 hT h he
/-- the entry at hand -/
def enF (di dm : Nat) (a : AV) (rows : Bool) (op : Op) (env : Env) (σ : Sto) : Option (Stp × Obs) := match op with
 | .entry x => (match env.evo x with
  | some (.ptr di' 0) => (match σ.get di with
   | some ob1 => (match σ.get dm with
    | some (.iH es c K E aW) => bif Nat.beq di' di && !rows then some (.y [di, dm] a, ([.mpf aW], [(0, ob1), (1, .iH es c 0 0 [])])) else none
    | some (.jd K E e keys hole (some (es, c))) => bif Nat.beq di' di && rows then some (.y [di, dm] a, ([.agg keys], [(0, ob1), (1, .iH es c 0 0 [])])) else none
    | _ => none)
   | _ => none)
  | _ => none)
 | _ => none
theorem aj8 {α : Type} {di dm clock i : Nat} {k : IntKind} {es : Array MapEntry} {seen : Array Nat} {e : MapEntry} {n : Int} {v : α} {l : List (Int × α)} {enc : α → AV} (hE : es[i]? = some e) (hl : l[i]? = some (n, v)) {o : Oper} {N : Nat} {ids : List Nat} {env : Env} {σ : Sto} {s : Stp} {ob : Obs}
  (h : enF di dm (.tup [.int k n, enc v]) false o.op env σ = some (s, ob)) (he : ob = ([.mpf (cD k enc l)], [(0, .iter dm clock clock (seen.push e.born)), (1, .iH es clock 0 0 [])])) : dy ⟨P, N, ids⟩ o env σ s := by
 cases ho : o.op <;> rw [ho] at h
 case entry x =>
  simp only [enF] at h
  split at h
  ·rename_i di' hx
   split at h
   ·rename_i ob1 h1
    split at h
    ·rename_i es' c K E aW hd
     cases hb : Nat.beq di' di with
     | false => rw [hb] at h; cases h
     | true =>
      rw [hb] at h
      have := Nat.eq_of_beq_eq_true hb
      subst this
      cases h
      simp only [Prod.mk.injEq, List.cons.injEq, AV.mpf.injEq, bI.iH.injEq, and_true, true_and] at he
      obtain ⟨rfl, rfl, rfl, rfl⟩ := he
      exact Y.aj3 l enc ho (Env.aM hx) h1 hd hE hl
    ·rename_i K E e keys hole es' c hd
     simp only [Bool.and_false, cond_false] at h; cases h
    ·cases h
   ·cases h
  ·cases h
 all_goals (simp only [enF] at h; cases h)
def hex {α : Type} {es : Array MapEntry} {i : Nat} {e : MapEntry} {n : Int} {v : α} {l : List (Int × α)} (di dm clock : Nat) (k : IntKind) (seen : Array Nat) (enc : α → AV) (hE : es[i]? = some e) (hl : l[i]? = some (n, v)) : Hint P :=
 .gs false ([.mpf (cD k enc l)], [(0, .iter dm clock clock (seen.push e.born)), (1, .iH es clock 0 0 [])]) (fun _ => enF di dm (.tup [.int k n, enc v]) false) fun _ _ _ _ _ _ _ h he => aj8 hE hl h he
end
/-! ### for the loop -/
theorem aiF {G : Gl} {σ : Sto} {cx : Cx} {I : Imm} {β : Nat → Value} {w : World} {α : Type} {k : IntKind} {dm K E e clock : Nat} {es : Array MapEntry} {hole : Option (Option Nat × Nat)} {l l0 : List (Int × α)} (hw : bk G cx I β σ w) (hd : σ.get dm = some (.jd K E e (aj2 k l) hole (some (es, clock)))) (hn : β dm ≠ .nilFunc) (hl : l.map (·.1) = l0.map (·.1)) : es.size = l0.length := by
 have ho := hw.bK dm _ hd
 simp only [az, hn, false_or] at ho
 obtain ⟨r, es', clock', hs, as, q1, q2, q3, q4, q5, q6, q7, q8, q9⟩ := ho
 cases q9 _ rfl
 have h1 := q5.length.2
 have h2 := congrArg List.length hl
 simp [aj2] at h1 h2
 omega
end Go.Proofs.Ytmfehenfoepkfaa

/- Steps: a slice bw is made, arrays. No condition but bR bw stand in each. -/
namespace Go.Proofs.Ytmfehenfoepkfaa
set_option linter.all false
open Go
section
variable {G : Gl} {σ : Sto} {o : Oper} {ev : Operand → AV}
theorem acZ {P : Program} {E : TypeId} {i : TypeInfo} {z z' : Value} {w : World} (hi : P.info? E = some i) (hz : i.zero = some z) (h : (zeroValue E).run P w = .ok z' w) : z' = z := by
 simp [zeroValue, typeInfo, hi, hz] at h
 exact h.symm
theorem D.makeSlice {T E bytes d : Nat} {x y : Operand} {k k' : IntKind} {n : Int} {a : AV} {zc : Value} (h : o.op = .makeSlice T x y) (hx : ev x = .int k n) (hy : ev y = .int k' n) (hA : iT G.P T E 1 bytes) (hS : jD G.P T E 1 [zc]) (ha : ∀ I, aD I a zc) (h0 : 0 ≤ n) (hb : n ≤ 4294967296) (hby : bytes ≤ 65536)
  (hi : G.ids.contains d = false) (hc : σ.clean [d].contains = true) : fS G o ev σ [d] [d] (fun r σ' => r = .own d ∧ σ' = (d, .slice E 1 (List.replicate n.toNat [a]) 0 false) :: σ) := by
 intro cx I β w ρ hw hop
 have h1 := hop x (by simp [h, Op.operands]); rw [hx] at h1; have h1 := dH h1
 have h2 := hop y (by simp [h, Op.operands]); rw [hy] at h2; have h2 := dH h2
 obtain ⟨i, z, hi1, hz1, hz2, hz3, hz4⟩ := hA.info
 obtain ⟨z', g1, g2⟩ := hS.zero w
 have := acZ hi1 hz1 g1
 subst this
 have hmul : (i.bytes : Int) * n ≤ 281474976710656 := by
  rw [hz3]
  have h1 : (bytes : Int) * n ≤ (65536 : Int) * 4294967296 := Int.mul_le_mul (by omega) hb h0 (by omega)
  omega
 have hr := run_make (P := G.P) w T E i z' hA.und hi1 hz1 k k' n n h0 (Int.le_refl _) hmul (by omega)
 rw [hz2, Nat.mul_one, g2] at hr
 have hrun : (execOp ρ o).run G.P w = .ok (.value (.slice (some ⟨w.heap.size, 0, none⟩) n.toNat n.toNat)) (w.alloc (.cells (madeCells #[zc] n.toNat) E)) := by simp [execOp, h, h1, h2, hr]
 rw [hrun]
 have hv := hw.rq (mat := [d]) (σ2 := σ) (env := []) ⟨fun _ _ => rfl, by simpa using hi, rfl, hc, fun x hx dm n h => by have := (Sto.ck hc x _ h).1; rw [List.contains_iff_mem.2 hx] at this; cases this⟩
 have hb : ∀ y, y ≠ d → eG (eB β [d]) d (.slice (some ⟨w.heap.size, 0, none⟩) n.toNat n.toNat) y = β y := fun y hy => by rw [cq _ _ hy]; simp [eB, hy]
 have hbi : eG (eB β [d]) d (.slice (some ⟨w.heap.size, 0, none⟩) n.toNat n.toNat) d = .slice (some ⟨w.heap.size, 0, none⟩) n.toNat n.toNat := bT _ _ _
 refine ⟨.own d, _, I, eG (eB β [d]) d (.slice (some ⟨w.heap.size, 0, none⟩) n.toNat n.toNat), ⟨rfl, rfl⟩, ?_, ?_, br.refl I, fun y hy => hb y (by simpa using hy), fun y hy => by rw [Sto.aR, if_neg (Ne.symm (by simpa using hy))]⟩
 ·simp only [Rep, hbi, fR, and_self]
 ·refine hv.turn (d := d) (Kept.alloc w _) (.inl hw.size) (fun x hx => by rw [Sto.aR, if_neg (Ne.symm hx)]) (fun x hx hs e => by
    obtain ⟨ob, hs⟩ := Option.isSome_iff_exists.1 hs
    exact absurd (hv.nH hs e) (by omega)) (br.refl I) (fun _ _ _ => rfl) (fun o' v' hv' => by rw [hw.cG (Nat.le_refl _)] at hv'; cases hv') (hw.cG (Nat.le_refl _) none)
   (fun x hx => cq _ _ hx) (.inl (by simpa using hi)) (HLe.upd (by simp [eB])) (.inl (by rw [hbi]; rfl)) fun ob hob => ?_
  rw [Sto.aR, if_pos rfl] at hob
  cases hob
  simp only [az, hbi]
  refine .inr (.inr ⟨w.heap.size, n.toNat, _, by rw [List.length_replicate], by rw [List.length_replicate]; exact Nat.le_refl _, by simp [maxLen]; omega, heap_alloc_new w _, by rw [size_madeCells, Nat.mul_one], ?_, fun e he => by rw [List.eq_of_mem_replicate he]; rfl, Nat.zero_le _, by simp, fun o _ => hw.cG (Nat.le_refl _) o, .inl hw.size⟩)
  rw [toList_madeCells_one, List.length_replicate, Nat.mul_one]
  have : ∀ m : Nat, bH I (List.replicate m [a]).flatten (List.replicate m zc) := by
   intro m
   induction m with
   | zero => simp [bH]
   | succ m ih =>
    simp only [List.replicate_succ, List.flatten_cons, List.singleton_append, bH]
    exact ⟨_, _, rfl, ha I, ih⟩
  have e : (List.replicate n.toNat zc).take n.toNat = List.replicate n.toNat zc := by rw [List.take_of_length_le]; simp
  rw [e]
  exact this _
end
section
variable {P : Program}
def msF {α : Type} (T0 d E : Nat) (x0 : α) (e : α → List AV) (n : Int) (ids : List Nat) (op : Op) (env : Env) (σ : Sto) : Option (Stp × Obs) := match op with
 | .makeSlice T x y => (match env.evo x with
  | some (.int _ n1) => (match env.evo y with
   | some (.int _ n2) => bif Nat.beq T T0 && !ids.contains d && σ.clean [d].contains then some (.e [d] [d] (.own d) ((d, .slice E 1 ((List.replicate n.toNat x0).map e) 0 false) :: σ), ([.int .i64 n1, .int .i64 n2], [])) else none
   | _ => none)
  | _ => none)
 | _ => none
theorem aj9 {α : Type} {T0 E bytes d : Nat} {x0 : α} {e : α → List AV} {n : Int} {a : AV} {zc : Value} (hA : iT P T0 E 1 bytes) (hS : jD P T0 E 1 [zc]) (hx0 : e x0 = [a]) (ha : ∀ I, aD I a zc) (h0 : 0 ≤ n) (hb : n ≤ 4294967296) (hby : bytes ≤ 65536) {o : Oper} {N : Nat} {ids : List Nat} {env : Env} {σ : Sto} {s : Stp} {ob : Obs}
  (h : msF T0 d E x0 e n ids o.op env σ = some (s, ob)) (he : ob = ([.int .i64 n, .int .i64 n], [])) : dy ⟨P, N, ids⟩ o env σ s := by
 cases ho : o.op <;> rw [ho] at h
 case makeSlice T x y =>
  simp only [msF] at h
  split at h
  ·rename_i k1 n1 hx
   split at h
   ·rename_i k2 n2 hy
    cases hc : (Nat.beq T T0 && !ids.contains d && σ.clean [d].contains) with
    | false => rw [hc] at h; cases h
    | true =>
     rw [hc] at h
     simp only [Bool.and_eq_true, Bool.not_eq_true'] at hc
     obtain ⟨⟨b1, b2⟩, b3⟩ := hc
     have := Nat.eq_of_beq_eq_true b1
     subst this
     cases h
     simp only [Prod.mk.injEq, List.cons.injEq, AV.int.injEq, and_true, true_and] at he
     obtain ⟨rfl, rfl⟩ := he
     rw [List.map_replicate, hx0]
     exact ⟨D.makeSlice ho (Env.aM hx) (Env.aM hy) hA hS ha h0 hb hby b2 b3, by simp only [List.all_cons, List.all_nil, b2]; rfl⟩
   ·cases h
  ·cases h
 all_goals (simp only [msF] at h; cases h)
def hms {α : Type} {T0 E bytes : Nat} {a : AV} {zc : Value} (d : Nat) (x0 : α) (e : α → List AV) (n : Int) (hA : iT P T0 E 1 bytes) (hS : jD P T0 E 1 [zc]) (hx0 : e x0 = [a]) (ha : ∀ I, aD I a zc) (hn : (decide (0 ≤ n) && decide (n ≤ 4294967296)) = true) (hby : bytes ≤ 65536) : Hint P :=
 .gs true ([.int .i64 n, .int .i64 n], []) (msF T0 d E x0 e n) fun _ _ _ _ _ _ _ h he => by
  simp only [Bool.and_eq_true, decide_eq_true_eq] at hn
  exact aj9 hA hS hx0 ha hn.1 hn.2 hby h he
end
end Go.Proofs.Ytmfehenfoepkfaa

/- Slices of own rows: made of empty rows, a row taken, stored, put back. No condition but bR bw stand in each. -/
namespace Go.Proofs.Ytmfehenfoepkfaa
set_option linter.all false
open Go
def encS {α : Type} (T : TypeId) (sz : Nat) (enc : α → List AV) (l : List (List α)) : List Rw := l.map fun r => .sl T sz (r.map enc)
theorem w9 {α : Type} {T : TypeId} {sz : Nat} {enc : α → List AV} (l : List (List α)) (i : Nat) (r : List α) : encS T sz enc (l.set i r) = (encS T sz enc l).set i (.sl T sz (r.map enc)) := by simp [encS, List.map_set]
section weak
variable {G : Gl} {env : Env} {σ : Sto}
/-- a slice of nil rows as a slice of own rows -/
theorem bp.aka {α : Type} {d e T n : Nat} (T' sz : Nat) (enc : α → List AV) (hn : 0 < n) (hd : σ.get d = some (.slice T 1 (List.replicate n [.bf]) 0 false)) (he : σ.get e = none) (hi : G.ids.contains e = false) (hc : env.clean [e].contains = true) (hs : σ.clean [e].contains = true) :
  bp G env σ env ((e, .bun (encS T' sz enc (List.replicate n []))) :: (d, .cA T e n none) :: σ.minus [d]) := fun cx I β a w h h' => by
 have hde : d ≠ e := fun e' => by subst e'; rw [he] at hd; cases hd
 have hi' : e ∉ G.ids := by simpa using hi
 let hs0 : Array Value := (List.replicate n (Value.slice none 0 0)).toArray
 refine ⟨I, eG β e (.tuple hs0), ?_, aeK h' hc fun y hy => cq β _ hy⟩
 have b2e : eG β e (.tuple hs0) e = .tuple hs0 := bT _ _ _
 have b2d : eG β e (.tuple hs0) d = β d := cq β _ hde
 have abX : ∀ c, c ∉ cc (Value.tuple hs0) := fun c hc => by
  rw [fO] at hc
  obtain ⟨u, hu, hub⟩ := List.mem_filterMap.1 hc
  have : u = Value.slice none 0 0 := List.eq_of_mem_replicate (by simpa [hs0] using hu)
  rw [this] at hub; cases hub
 have cls : ∀ y, y ∈ [d, e] → ∀ o, Sto.get ((e, bI.bun (encS T' sz enc (List.replicate n []))) :: (d, .cA T e n none) :: σ.minus [d]) y = some o → (y = d ∧ o = .cA T e n none) ∨ (y = e ∧ o = .bun (encS T' sz enc (List.replicate n []))) := fun y hy o ho => by
  rw [w8] at ho
  split at ho
  ·rename_i e'; exact .inr ⟨e'.symm, (Option.some.inj ho).symm⟩
  ·rename_i n2
   split at ho
   ·rename_i e'; exact .inl ⟨e'.symm, (Option.some.inj ho).symm⟩
   ·rename_i n1
    simp only [List.mem_cons, List.not_mem_nil, or_false] at hy
    rcases hy with rfl | rfl
    ·exact absurd rfl n1
    ·exact absurd rfl n2
 have aeO : ∀ y, y ∈ [d, e] → y = d ∨ y = e := fun y hy => by simpa using hy
 have bun : ∀ m : Nat, gx cx I w (encS T' sz enc (List.replicate m [])) (List.replicate m (Value.slice none 0 0)) := by
  intro m
  induction m with
  | zero => rfl
  | succ m ih =>
   simp only [List.replicate_succ, encS, List.map_cons, List.map_nil, gx] at ih ⊢
   exact ⟨_, _, rfl, Or.inl ⟨rfl, rfl⟩, fun b (hb : none = some b) => (by cases hb), ih⟩
 refine h.abU (M := [d, e]) (news := [e]) (fun y hy => ?_) (fun y hy => cq β _ (by simpa using hy)) (fun y hy => ?_) (fun y o _ hyo => (Sto.ck hs y o hyo).2) (fun y hy o hyo => ?_) (fun y hy hs2 c hc => ?_) (fun y hy z hz hyz hs1 hs2 c hc hc' => ?_)
 ·simp only [List.mem_cons, List.not_mem_nil, or_false, not_or] at hy
  rw [w8, if_neg (Ne.symm hy.2), if_neg (Ne.symm hy.1), if_neg (by simp [hy.1])]
 ·simp only [List.mem_singleton] at hy; subst hy; exact ⟨by simp, hi'⟩
 ·rcases cls y hy o hyo with ⟨rfl, rfl⟩ | ⟨rfl, rfl⟩
  ·have := h.bK y _ hd
   simp only [az, b2d, b2e] at this ⊢
   rcases this with q | ⟨q, q', _⟩ | ⟨b, cap, arr, q1, q2, q3, q4, q5, q6, q7, q8, q9, q10, q11⟩
   ·exact .inl q
   ·-- a nil slice has no rows
    have : n = 0 := by simpa using q'
    omega
   ·refine .inr ⟨b, cap, arr, hs0, by simpa using q1, by simpa using q2, q3, q4, by simpa using q5, rfl, by simp [hs0], ?_, fun o => q10 o (by omega), q11⟩
    have : ∀ (m : Nat) (l : List Value), bH I (List.replicate m [AV.bf]).flatten l → l = List.replicate m (Value.slice none 0 0) := by
     intro m
     induction m with
     | zero => intro l hl; simpa [bH] using hl
     | succ m ih =>
      intro l hl
      simp only [List.replicate_succ, List.flatten_cons, List.singleton_append, bH, aD] at hl
      obtain ⟨u, us, rfl, rfl, hl⟩ := hl
      rw [ih us hl, List.replicate_succ]
    have := this n _ (by simpa using q6)
    show arr.toList.take n = hs0.toList
    rw [this]
  ·simp only [az, b2e]
   exact .inr ⟨hs0, rfl, by simpa [hs0] using bun n⟩
 ·rcases aeO y hy with rfl | rfl
  ·rw [b2d] at hc; exact ⟨y, by simp, by rw [hd]; rfl, hc⟩
  ·rw [b2e] at hc; exact absurd hc (abX c)
 ·rcases aeO y hy with rfl | rfl
  ·rcases aeO z hz with rfl | rfl
   ·exact hyz rfl
   ·rw [b2e] at hc'; exact absurd hc' (abX c)
  ·rw [b2e] at hc; exact absurd hc (abX c)
/-- a row back in its place -/
theorem bp.abY {α : Type} {T' sz T d e e2 t n i : Nat} {fz : Bool} (l : List (List α)) (enc : α → List AV) (row : List α)
  (hd : σ.get d = some (.cA T e n (some (some i, t)))) (he : σ.get e = some (.bun (encS T' sz enc (l.set i [])))) (ht : σ.get t = some (.slice T' sz (row.map enc) 0 fz))
  (he2 : σ.get e2 = none) (hei : G.ids.contains e2 = false) (hc : env.clean [e2].contains = true) (hs : σ.clean [e2].contains = true) :
  bp G env σ env ((e2, .bun (encS T' sz enc (l.set i row))) :: (d, .cA T e2 n none) :: σ.minus [d, e, t]) := fun cx I β a w h h' => by
 obtain ⟨β2, h1, h2⟩ := h.back hd rfl he ht he2 (by simpa using hei) hs
 refine ⟨I, β2, ?_, aeK h' hc h1⟩
 have e1 : (encS T' sz enc (l.set i [])).set i (.sl T' sz (row.map enc)) = encS T' sz enc (l.set i row) := by rw [← w9, List.set_set]
 rw [e1] at h2
 exact h2
/-- .. as it was -/
theorem bp.akb {α : Type} {T' sz T d e e2 t n : Nat} {i : Int} {fz : Bool} {row : List α} (l : List (List α)) (enc : α → List AV) (hi : elO l i = some row)
  (hd : σ.get d = some (.cA T e n (some (some i.toNat, t)))) (he : σ.get e = some (.bun (encS T' sz enc (l.set i.toNat [])))) (ht : σ.get t = some (.slice T' sz (row.map enc) 0 fz))
  (he2 : σ.get e2 = none) (hei : G.ids.contains e2 = false) (hc : env.clean [e2].contains = true) (hs : σ.clean [e2].contains = true) :
  bp G env σ env ((e2, .bun (encS T' sz enc l)) :: (d, .cA T e2 n none) :: σ.minus [d, e, t]) := by
 have h := bp.abY l enc row hd he ht he2 hei hc hs
 have e1 : l.set i.toNat row = l := by
  unfold elO at hi
  split at hi
  ·apply List.ext_getElem?
   intro j
   rw [List.getElem?_set]
   split
   ·rename_i hj
    subst hj
    rw [if_pos (List.getElem?_eq_some_iff.1 hi).1, hi]
   ·rfl
  ·cases hi
 rwa [e1] at h
end weak
section
variable {G : Gl} {σ : Sto} {o : Oper} {ev : Operand → AV}
/-- what a slice of rows is, at its block -/
theorem vV {cx : Cx} {I : Imm} {β : Nat → Value} {w : World} (hw : bk G cx I β σ w) {d e T n : Nat} {hole : Option (Option Nat × Nat)} {els : List Rw} (hd : σ.get d = some (.cA T e n hole)) (he : σ.get e = some (.bun els)) (hn : β d ≠ .nilFunc) :
  ∃ b cap arr, ∃ hs : Array Value, β d = .slice (some ⟨b, 0, none⟩) n cap ∧ n ≤ cap ∧ cap ≤ maxLen ∧ w.heap[b]? = some (.cells arr T (0, 0)) ∧ arr.size = cap ∧ β e = .tuple hs ∧ hs.size = n ∧ dX β hs.toList (arr.toList.take n) hole ∧ (∀ o : Nat, I b o = none) ∧ Place cx b ∧ gx cx I w els hs.toList ∧ els.length = n := by
 have ho := hw.bK d _ hd
 simp only [az, hn, false_or] at ho
 obtain ⟨b, cap, arr, hs, q1, q2, q3, q4, q5, q6, q7, q8, q9, q10⟩ := ho
 have hbu := hw.bK e _ he
 simp only [az, q6, Value.tuple.injEq, reduceCtorEq, false_or] at hbu
 obtain ⟨hs', rfl, hb⟩ := hbu
 exact ⟨b, cap, arr, hs, q1, q2, q3, q4, q5, q6, q7, q8, q9, q10, hb, by have := hb.length; simp at this; omega⟩
theorem Y.aih {T E d e T0 n : Nat} {hole : Option (Option Nat × Nat)} {els : List Rw} {x y : Operand} {k : IntKind} {i : Int} (h : o.op = .indexAddr T x y) (hx : ev x = .own d) (hy : ev y = .int k i) (hd : σ.get d = some (.cA T0 e n hole)) (he : σ.get e = some (.bun els)) (hT : SlS G.P T E 1)
  (hi : 0 ≤ i ∧ i < els.length) : Yields G o ev σ [] [d, e] (.ptr d i.toNat) :=
 .pure fun σ' cx I β w ρ hR hw hop => by
  have h1 := hop x (by simp [h, Op.operands]); rw [hx] at h1
  have h2 := hop y (by simp [h, Op.operands]); rw [hy] at h2; have h2 := dH h2
  simp only [Rep] at h1
  obtain ⟨h1, hs⟩ := h1
  have hdn : β d ≠ .nilFunc := fun e => by rw [h1, e] at hs; simp [fR] at hs
  obtain ⟨b, cap, arr, hs', q1, q2, q3, q4, q5, q6, q7, q8, q9, q10, q11, q12⟩ := vV hw (by rw [hR d (by simp)]; exact hd) (by rw [hR e (by simp)]; exact he) hdn
  refine ⟨.pointer (some ⟨b, i.toNat, none⟩), ?_, by simp only [Rep]; exact ⟨b, by rw [q1]; rfl, rfl⟩⟩
  have e1 : ∀ w, (underlying T).run G.P w = .ok (.slice E) w := fun w => by simp [underlying, program, Sem.run, hT.und]
  rw [q1] at h1
  have hi' : 0 ≤ i ∧ i < (n : Int) := by omega
  simp [execOp, h, h1, h2, Instr.indexAt, asIntOf, e1, hi', hT.size, dR]
theorem Y.anc {T d e T0 n : Nat} {hole : Option (Option Nat × Nat)} {els : List Rw} {x : Operand} {kk} (h : o.op = .call ⟨.builtin .len, #[x], kk⟩) (hk : kk = #[T]) (hx : ev x = .own d) (hd : σ.get d = some (.cA T0 e n hole)) (he : σ.get e = some (.bun els)) {E : Nat} (hT : G.P.underlying T = some (.slice E)) :
  Yields G o ev σ [] [d, e] (.int .i64 (els.length : Int)) :=
 .pure fun σ' cx I β w ρ hR hw hop => by
  subst hk
  have h1 := hop x (by simp [h, Op.operands, Call.operands]); rw [hx] at h1
  simp only [Rep] at h1
  obtain ⟨h1, hs⟩ := h1
  have hdn : β d ≠ .nilFunc := fun e => by rw [h1, e] at hs; simp [fR] at hs
  obtain ⟨b, cap, arr, hs', q1, q2, q3, q4, q5, q6, q7, q8, q9, q10, q11, q12⟩ := vV hw (by rw [hR d (by simp)]; exact hd) (by rw [hR e (by simp)]; exact he) hdn
  rw [q1] at h1
  have e1 : ∀ w, (underlying T).run G.P w = .ok (.slice E) w := fun w => by simp [underlying, program, Sem.run, hT]
  exact ⟨.int .i64 n, by simp [execOp, h, resolve, invoke, builtin, Builtin.len_, h1, e1, goInt], by simp [Rep, aD, q12]⟩
/-- a row loaded is taken -/
theorem D.akc {α : Type} {T d e e2 t p T0 n T' sz : Nat} {x : Operand} (l : List (List α)) (enc : α → List AV) (row : List α) (h : o.op = .load T x) (hx : ev x = .ptr d p) (hd : σ.get d = some (.cA T0 e n none)) (he : σ.get e = some (.bun (encS T' sz enc l))) (hrow : l[p]? = some row) (hT : TyS G.P T 1 false)
  (ht : σ.get t = none) (he2 : σ.get e2 = none) (hte : t ≠ e2) (hti : G.ids.contains t = false) (hei : G.ids.contains e2 = false) (hcl : σ.clean [t, e2].contains = true) :
  fS G o ev σ [d, e, e2, t] [t, e2] (fun r σ' => r = .own t ∧ σ' = (t, .slice T' sz (row.map enc) 0 false) :: (e2, .bun (encS T' sz enc (l.set p []))) :: (d, .cA T0 e2 n (some (some p, t))) :: σ.minus [d, e]) := by
 intro cx I β w ρ hw hop
 have h1 := hop x (by simp [h, Op.operands]); rw [hx] at h1
 simp only [Rep] at h1
 obtain ⟨b, h1, h2⟩ := h1
 have hdn : β d ≠ .nilFunc := fun e => by rw [e] at h1; cases h1
 obtain ⟨b', cap, arr, hs, q1, q2, q3, q4, q5, q6, q7, q8, q9, q10, q11, q12⟩ := vV hw hd he hdn
 have hbb : b' = b := by rw [q1] at h1; simpa [blk] using h1
 subst hbb
 have hp : p < l.length := (List.getElem?_eq_some_iff.1 hrow).1
 have hln : l.length = n := by simpa [encS] using q12
 have hr : (encS T' sz enc l)[p]? = some (.sl T' sz (row.map enc)) := by simp [encS, hrow]
 obtain ⟨hs2, g1, v2, g2, g3, g4⟩ := hw.take hd rfl he hr hdn ht he2 hte (by simpa using hti) (by simpa using hei) hcl
 rw [q6] at g1; cases g1
 have nv : arr[p]? = some v2 := by
  have : (arr.toList.take n)[p]? = hs.toList[p]? := by rw [show arr.toList.take n = hs.toList from q8]
  rw [List.getElem?_take, if_pos (by omega)] at this
  have e : hs.toList[p]? = some v2 := by simpa using g2
  rw [e] at this; simpa using this
 have hcell : ∀ j, j < 1 → ∃ v, [v2][j]? = some v ∧ w.cell? ⟨b', p + j, none⟩ = some v := fun j hj => by
  have : j = 0 := by omega
  subst this
  exact ⟨v2, rfl, by simp [World.cell?, q4, nv]⟩
 have hl := pI hT (vs := [v2]) hcell (fun _ => by omega)
 have hrun : (execOp ρ o).run G.P w = .ok (.value v2) w := by
  simp [execOp, h, h2, Instr.loadAt, Instr.sureAddr, hl]
 rw [hrun]
 refine ⟨.own t, _, I, fun y => if y = t then v2 else if y = e2 then .tuple (hs.setIfInBounds p (.slice none 0 0)) else β y, ⟨rfl, rfl⟩, ?_, ?_, br.refl I, fun y hy => ?_, fun y hy => ?_⟩
 ·simp only [Rep, if_true]
  refine ⟨trivial, ?_⟩
  rcases g3 with ⟨q, _⟩ | ⟨b, cap, arr, q, _⟩ <;> rw [q] <;> rfl
 ·rw [w9]; exact g4
 ·simp only [List.mem_cons, List.not_mem_nil, or_false, not_or] at hy
  simp only [if_neg hy.1, if_neg hy.2]
 ·simp only [List.mem_cons, List.not_mem_nil, or_false, not_or] at hy
  rw [aaf, if_neg (Ne.symm hy.2.2.2), if_neg (Ne.symm hy.2.2.1), if_neg (Ne.symm hy.1), if_neg (by simp [hy.1, hy.2.1])]
/-- a row stored -/
theorem D.aii {α : Type} {T d e e2 j p T0 n T' sz : Nat} {fz : Bool} {x y : Operand} (l : List (List α)) (enc : α → List AV) (row : List α) (h : o.op = .store T x y) (hx : ev x = .ptr d p) (hy : ev y = .own j) (hj : σ.get j = some (.slice T' sz (row.map enc) 0 fz)) (hd : σ.get d = some (.cA T0 e n none)) (he : σ.get e = some (.bun (encS T' sz enc l))) (hp : p < l.length) (hT : TyS G.P T 1 false)
  (he2 : σ.get e2 = none) (hei : G.ids.contains e2 = false) (hcl : σ.clean [e2].contains = true) :
  fS G o ev σ [d, e, e2, j] [e2] (fun r σ' => r = .undef ∧ σ' = (e2, .bun (encS T' sz enc (l.set p row))) :: (d, .cA T0 e2 n none) :: σ.minus [d, e, j]) := by
 intro cx I β w ρ hw hop
 have h1 := hop x (by simp [h, Op.operands]); rw [hx] at h1
 have h3 := hop y (by simp [h, Op.operands]); rw [hy] at h3
 simp only [Rep] at h1 h3
 obtain ⟨b, h1, h2⟩ := h1
 obtain ⟨h3, h3s⟩ := h3
 have hdn : β d ≠ .nilFunc := fun e => by rw [e] at h1; cases h1
 obtain ⟨b', cap, arr, hs, q1, q2, q3, q4, q5, q6, q7, q8, q9, q10, q11, q12⟩ := vV hw hd he hdn
 have hbb : b' = b := by rw [q1] at h1; simpa [blk] using h1
 subst hbb
 have hln : l.length = n := by simpa [encS] using q12
 have hrow := je.of_slice (hw.bK j _ hj) fun e => (by rw [h3, e] at h3s; cases h3s)
 have hei' : e2 ∉ G.ids := by simpa using hei
 have hds : (σ.get d).isSome := by rw [hd]; rfl
 have hes : (σ.get e).isSome := by rw [he]; rfl
 have hjs : (σ.get j).isSome := by rw [hj]; rfl
 have hde : d ≠ e := fun e' => by subst e'; rw [hd] at he; cases he
 have hdj : d ≠ j := fun e' => by subst e'; rw [hd] at hj; cases hj
 have hej : e ≠ j := fun e' => by subst e'; rw [he] at hj; cases hj
 have hne : ∀ y, (σ.get y).isSome → y ≠ e2 := fun y hy e => by subst e; rw [he2] at hy; cases hy
 have hbd : b' ∈ cc (β d) := dQ h1
 -- the new afI place is its own
 have hone : (β j).oneCell' = true ∧ (β j).cells = #[β j] := by
  rcases hrow with ⟨q, _⟩ | ⟨c, cp, ar, q, _⟩ <;> rw [q] <;> exact ⟨rfl, rfl⟩
 have hst := mF (P := G.P) q4 [β j] (off := p) (by simp; omega) (fun v hv => by rw [List.mem_singleton.1 hv]; exact hone.1)
 have hrun : (execOp ρ o).run G.P w = .ok .skip (w.setRow b' (cK arr.toList p [β j]).toArray) := by
  have e1 : ((#[β j] : Array Value).size ≠ 1) = False := by simp
  simp [execOp, h, h2, h3, Instr.storeAt, Instr.sureAddr, storeVar, hT.size, hone.2, hst]
 rw [hrun]
 let hs' : Array Value := hs.setIfInBounds p (β j)
 have hsl : hs'.toList = hs.toList.set p (β j) := by simp [hs']
 have hbun : gx cx I w (encS T' sz enc (l.set p row)) hs'.toList := by
  rw [hsl, w9]
  refine q11.set hrow fun i u c _ hiu hbz hbu => ?_
  refine hw.bY e j hes hjs hej c ?_ (dQ hbz)
  rw [q6, fO]; exact List.mem_filterMap.2 ⟨u, List.mem_of_getElem? hiu, hbu⟩
 have hsub : ∀ c ∈ hs'.toList.filterMap blk, c ∈ cc (β e) ∨ c ∈ cc (β j) := fun c hc => by
  rw [hsl] at hc
  rcases sN hc with hc | hc
  ·exact .inl (by rw [q6, fO]; exact hc)
  ·exact .inr (dQ hc)
 have hrn : ∀ c ∈ hs'.toList.filterMap blk, c ≠ b' := fun c hc e' => by
  subst e'
  rcases hsub c hc with q | q
  ·exact hw.bY d e hds hes hde c hbd q
  ·exact hw.bY d j hds hjs hdj c hbd q
 have hk : Kept w (w.setRow b' (cK arr.toList p [β j]).toArray) b' := Kept.setRow w b' _
 have hb2 : ∀ y, y ≠ e2 → (fun y => if y = e2 then (Value.tuple hs') else β y) y = β y := fun y hy => if_neg hy
 have sO : (fun y => if y = e2 then (Value.tuple hs') else β y) e2 = .tuple hs' := if_pos rfl
 have hmin : ∀ y, y ∉ [d, e, e2, j] → Sto.get ((e2, .bun (encS T' sz enc (l.set p row))) :: (d, .cA T0 e2 n none) :: σ.minus [d, e, j]) y = σ.get y := fun y hy => by
  simp only [List.mem_cons, List.not_mem_nil, or_false, not_or] at hy
  rw [w8, if_neg (Ne.symm hy.2.2.1), if_neg (Ne.symm hy.1), if_neg (by simp [hy.1, hy.2.1, hy.2.2.2])]
 generalize (fun y => if y = e2 then (Value.tuple hs') else β y) = β2 at hb2 sO
 have b2d : β2 d = β d := hb2 d (hne d hds)
 have cls : ∀ y, y ∈ [d, e, e2, j] → ∀ o, Sto.get ((e2, .bun (encS T' sz enc (l.set p row))) :: (d, .cA T0 e2 n none) :: σ.minus [d, e, j]) y = some o → (y = d ∧ o = .cA T0 e2 n none) ∨ (y = e2 ∧ o = .bun (encS T' sz enc (l.set p row))) := fun y hy o ho => by
  rw [w8] at ho
  split at ho
  ·rename_i e'; exact .inr ⟨e'.symm, (Option.some.inj ho).symm⟩
  ·rename_i n2
   split at ho
   ·rename_i e'; exact .inl ⟨e'.symm, (Option.some.inj ho).symm⟩
   ·split at ho
    ·cases ho
    ·rename_i n1 n3
     simp only [List.mem_cons, List.not_mem_nil, or_false, not_or] at hy n3
     rcases hy with rfl | rfl | rfl | rfl
     ·exact absurd rfl n1
     ·exact absurd rfl n3.2.1
     ·exact absurd rfl n2
     ·exact absurd rfl n3.2.2
 have cls' : ∀ y, y ∈ [d, e, e2, j] → (Sto.get ((e2, .bun (encS T' sz enc (l.set p row))) :: (d, .cA T0 e2 n none) :: σ.minus [d, e, j]) y).isSome → y = d ∨ y = e2 := fun y hy hs => by
  obtain ⟨o, ho⟩ := Option.isSome_iff_exists.1 hs
  rcases cls y hy o ho with q | q
  ·exact .inl q.1
  ·exact .inr q.1
 have sep : ∀ c, c ∈ cc (β2 d) → c ∉ cc (β2 e2) := fun c hc hc' => by
  rw [b2d, q1] at hc
  have : c = b' := by simpa [cc, blk] using hc
  exact hrn c (by rw [sO] at hc'; exact hc') this
 refine ⟨.undef, _, I, β2, ⟨rfl, rfl⟩, by simp [Rep, aD], ?_, br.refl I, fun y hy => hb2 y (by simpa using hy), fun y hy => hmin y hy⟩
 refine hw.redo (M := [d, e, e2, j]) (news := [e2]) (b := b') (β2 := β2) hk (fun o => ?_) (fun y hy hs e' => ?_) q10 (fun y hy => hmin y hy) (fun y hy => hb2 y (by simpa using hy)) (fun y hy => ?_) (fun y o _ hyo => (Sto.ck hcl y o hyo).2) (fun y hy o hyo => ?_) (fun y hy hs2 c hc => ?_) (fun y hy z hz hyz hs1 hs2 c hc hc' => ?_)
 ·cases o with
  | none => exact hw.lC q4
  | some o => exact q9 o
 ·exact hw.bY d y hds hs (fun e => hy (by simp [e])) b' hbd e'
 ·simp only [List.mem_singleton] at hy
  subst hy
  exact ⟨by simp, hei'⟩
 ·rcases cls y hy o hyo with ⟨rfl, rfl⟩ | ⟨rfl, rfl⟩
  ·simp only [az, b2d, sO]
   refine .inr ⟨b', cap, _, hs', q1, q2, q3, setRow_heap w b' arr _ T0 _ q4, by simp only [cK, List.size_toArray, List.length_append, List.length_take, List.length_drop, List.length_singleton, Array.length_toList]; omega, rfl, by simp [hs', q7], ?_, q9, q10⟩
   show (cK arr.toList p [β j]).take n = hs'.toList
   rw [hsl, ← show arr.toList.take n = hs.toList from q8]
   apply List.ext_getElem?
   intro i
   have hpa : p < arr.toList.length := by simp; omega
   rw [List.getElem?_take, List.getElem?_set, List.getElem?_take]
   simp only [cK, List.length_singleton]
   by_cases hin : i < n
   ·rw [if_pos hin, if_pos hin]
    by_cases hip : p = i
    ·subst hip
     rw [if_pos rfl, if_pos (by simp; omega), List.append_assoc, List.getElem?_append_right (by simp; omega), List.length_take, Nat.min_eq_left (by omega)]
     simp
    ·rw [if_neg hip]
     by_cases hlt : i < p
     ·rw [List.append_assoc, List.getElem?_append_left (by simp; omega), List.getElem?_take, if_pos hlt]
     ·rw [List.getElem?_append_right (by simp; omega), List.getElem?_drop]
      congr 1
      simp only [List.length_append, List.length_take, List.length_singleton]
      omega
   ·rw [if_neg hin, if_neg hin]
    by_cases hip : p = i
    ·omega
    ·rw [if_neg hip]
  ·simp only [az]
   exact .inr ⟨hs', sO, hbun.go (br.refl I) fun c hc => ⟨fun hlt => hk.block c (hrn c hc) hlt, fun _ => rfl, id⟩⟩
 ·rcases cls' y hy hs2 with rfl | rfl
  ·rw [b2d] at hc; exact ⟨y, by simp, hds, hc⟩
  ·rw [sO] at hc
   rcases hsub c hc with q | q
   ·exact ⟨e, by simp, hes, q⟩
   ·exact ⟨j, by simp, hjs, q⟩
 ·rcases cls' y hy hs1 with rfl | rfl <;> rcases cls' z hz hs2 with rfl | rfl
  ·exact hyz rfl
  ·exact sep c hc hc'
  ·exact sep c hc' hc
  ·exact hyz rfl
end
end Go.Proofs.Ytmfehenfoepkfaa

/- Steps on p8 of own rows. No condition but bR bw stand in each. -/
namespace Go.Proofs.Ytmfehenfoepkfaa
set_option linter.all false
open Go
section
variable {P : Program}
/-- a afI place -/
def ioF (T0 : Nat) (op : Op) (env : Env) (σ : Sto) : Option (Stp × Obs) := match op with
 | .indexAddr T x y => (match env.evo x with
  | some (.own d) => (match env.evo y with
   | some (.int k i) => (match σ.get d with
    | some (.cA T1 e n hole) => (match σ.get e with
     | some (.bun els) => bif Nat.beq T T0 then some (.y [d, e] (.ptr d i.toNat), ([.int .i64 i], [(0, .bun els)])) else none
     | _ => none)
    | _ => none)
   | _ => none)
  | _ => none)
 | _ => none
theorem akd {α : Type} {T0 E T' sz : Nat} {enc : α → List AV} {l : List (List α)} {i : Int} {row : List α} (hT : SlS P T0 E 1) (hi : elO l i = some row) {o : Oper} {N : Nat} {ids : List Nat} {env : Env} {σ : Sto} {s : Stp} {ob : Obs}
  (h : ioF T0 o.op env σ = some (s, ob)) (he : ob = ([.int .i64 i], [(0, .bun (encS T' sz enc l))])) : dy ⟨P, N, ids⟩ o env σ s := by
 cases ho : o.op <;> rw [ho] at h
 case indexAddr T x y =>
  simp only [ioF] at h
  split at h
  ·rename_i d hx
   split at h
   ·rename_i k i' hy
    split at h
    ·rename_i T1 e n hole hd
     split at h
     ·rename_i els hb
      cases hc : Nat.beq T T0 with
      | false => rw [hc] at h; cases h
      | true =>
       rw [hc] at h
       have := Nat.eq_of_beq_eq_true hc
       subst this
       cases h
       simp only [Prod.mk.injEq, List.cons.injEq, AV.int.injEq, bI.bun.injEq, and_true, true_and] at he
       obtain ⟨rfl, rfl⟩ := he
       refine Y.aih ho (Env.aM hx) (Env.aM hy) hd hb hT ?_
       unfold elO at hi
       split at hi
       ·rename_i h0
        have := (List.getElem?_eq_some_iff.1 hi).1
        simp only [encS, List.length_map]; omega
       ·cases hi
     ·cases h
    ·cases h
   ·cases h
  ·cases h
 all_goals (simp only [ioF] at h; cases h)
def hio {α : Type} {T0 E : Nat} {l : List (List α)} {i : Int} {row : List α} (T' sz : Nat) (enc : α → List AV) (hT : SlS P T0 E 1) (hi : elO l i = some row) : Hint P :=
 .gs false ([.int .i64 i], [(0, .bun (encS T' sz enc l))]) (fun _ => ioF T0) fun _ _ _ _ _ _ _ h he => akd hT hi h he
/-- how many rows -/
def noF (T0 : Nat) (n : Int) (op : Op) (env : Env) (σ : Sto) : Option (Stp × Obs) := match op with
 | .call c => (match c.callee with
  | .builtin b => (match b with
   | .len => (match c.args.toList with
    | [x] => (match c.argTypes.toList with
     | [T] => (match env.evo x with
      | some (.own d) => (match σ.get d with
       | some (.cA T1 e m hole) => (match σ.get e with
        | some (.bun els) => bif Nat.beq T T0 then some (.y [d, e] (.int .i64 n), ([], [(0, .bun els)])) else none
        | _ => none)
       | _ => none)
      | _ => none)
     | _ => none)
    | _ => none)
   | _ => none)
  | _ => none)
 | _ => none
theorem ake {α : Type} {T0 E T' sz : Nat} {enc : α → List AV} {l : List (List α)} (hT : SlS P T0 E 1) {o : Oper} {N : Nat} {ids : List Nat} {env : Env} {σ : Sto} {s : Stp} {ob : Obs}
  (h : noF T0 (l.length : Int) o.op env σ = some (s, ob)) (he : ob = ([], [(0, .bun (encS T' sz enc l))])) : dy ⟨P, N, ids⟩ o env σ s := by
 cases ho : o.op <;> rw [ho] at h
 case call c =>
  obtain ⟨cl, args, tys⟩ := c
  simp only [noF] at h
  split at h
  ·rename_i b
   split at h
   ·split at h
    ·rename_i x hargs
     have : args = #[x] := Array.toList_inj.1 (by simpa using hargs)
     subst this
     split at h
     ·rename_i T aeN
      have : tys = #[T] := Array.toList_inj.1 (by simpa using aeN)
      subst this
      split at h
      ·rename_i d hx
       split at h
       ·rename_i T1 e m hole hd
        split at h
        ·rename_i els hb
         cases hc : Nat.beq T T0 with
         | false => rw [hc] at h; cases h
         | true =>
          rw [hc] at h
          have := Nat.eq_of_beq_eq_true hc
          subst this
          cases h
          simp only [Prod.mk.injEq, List.cons.injEq, bI.bun.injEq, and_true, true_and] at he
          subst he
          have := Y.anc (G := ⟨P, N, ids⟩) ho rfl (Env.aM hx) hd hb hT.und
          rw [show (encS T' sz enc l).length = l.length by simp [encS]] at this
          exact this
        ·cases h
       ·cases h
      ·cases h
     ·cases h
    ·cases h
   ·cases h
  ·cases h
 all_goals (simp only [noF] at h; cases h)
def hno {α : Type} {T0 E : Nat} (T' sz : Nat) (enc : α → List AV) (l : List (List α)) (hT : SlS P T0 E 1) : Hint P :=
 .gs false ([], [(0, .bun (encS T' sz enc l))]) (fun _ => noF T0 (l.length : Int)) fun _ _ _ _ _ _ _ h he => ake hT h he
/-- a row taken -/
def loF {α : Type} (T0 T' sz e2 t p : Nat) (l : List (List α)) (row : List α) (enc : α → List AV) (ids : List Nat) (op : Op) (env : Env) (σ : Sto) : Option (Stp × Obs) := match op with
 | .load T x => (match env.evo x with
  | some (.ptr d p') => (match σ.get d with
   | some (.cA T1 e n none) => (match σ.get e with
    | some (.bun els) => bif Nat.beq T T0 && (σ.get t).isNone && (σ.get e2).isNone && !Nat.beq t e2 && !ids.contains t && !ids.contains e2 && σ.clean [t, e2].contains then
      some (.e [d, e, e2, t] [t, e2] (.own t) ((t, .slice T' sz (row.map enc) 0 false) :: (e2, .bun (encS T' sz enc (l.set p []))) :: (d, .cA T1 e2 n (some (some p, t))) :: σ.minus [d, e]), ([.ptr 0 p'], [(1, .bun els)])) else none
    | _ => none)
   | _ => none)
  | _ => none)
 | _ => none
theorem akf {α : Type} {T0 T' sz e2 t : Nat} {l : List (List α)} {i : Int} {row : List α} {enc : α → List AV} (hT : TyS P T0 1 false) (hi : elO l i = some row) {o : Oper} {N : Nat} {ids : List Nat} {env : Env} {σ : Sto} {s : Stp} {ob : Obs}
  (h : loF T0 T' sz e2 t i.toNat l row enc ids o.op env σ = some (s, ob)) (he : ob = ([.ptr 0 i.toNat], [(1, .bun (encS T' sz enc l))])) : dy ⟨P, N, ids⟩ o env σ s := by
 cases ho : o.op <;> rw [ho] at h
 case load T x =>
  simp only [loF] at h
  split at h
  ·rename_i d p' hx
   split at h
   ·rename_i T1 e n hd
    split at h
    ·rename_i els hb
     generalize hc : (Nat.beq T T0 && _ && _ && _ && _ && _ && _) = bb at h
     cases bb with
     | false => cases h
     | true =>
      simp only [Bool.and_eq_true, Bool.not_eq_true'] at hc
      obtain ⟨⟨⟨⟨⟨⟨c1, c2⟩, c3⟩, c4⟩, c5⟩, c6⟩, c7⟩ := hc
      have := Nat.eq_of_beq_eq_true c1
      subst this
      cases h
      simp only [Prod.mk.injEq, List.cons.injEq, AV.ptr.injEq, bI.bun.injEq, and_true, true_and] at he
      obtain ⟨rfl, rfl⟩ := he
      have hrow : l[i.toNat]? = some row := by
       unfold elO at hi
       split at hi
       ·exact hi
       ·cases hi
      refine ⟨D.akc l enc row ho (Env.aM hx) hd hb hrow hT (by simpa using c2) (by simpa using c3) (fun e => ?_) c5 c6 c7, ?_⟩
      ·subst e; rw [Nat.beq_refl] at c4; cases c4
      ·simp only [List.all_cons, List.all_nil, c5, c6]; rfl
    ·cases h
   ·cases h
  ·cases h
 all_goals (simp only [loF] at h; cases h)
def hlS {α : Type} {T0 : Nat} {l : List (List α)} {i : Int} {row : List α} (T' sz e2 t : Nat) (enc : α → List AV) (hT : TyS P T0 1 false) (hi : elO l i = some row) : Hint P :=
 .gs true ([.ptr 0 i.toNat], [(1, .bun (encS T' sz enc l))]) (loF T0 T' sz e2 t i.toNat l row enc) fun _ _ _ _ _ _ _ h he => akf hT hi h he
/-- a row stored -/
def soF {α : Type} (T0 T' sz e2 p : Nat) (l : List (List α)) (row : List α) (enc : α → List AV) (ids : List Nat) (op : Op) (env : Env) (σ : Sto) : Option (Stp × Obs) := match op with
 | .store T x y => (match env.evo x with
  | some (.ptr d p') => (match env.evo y with
   | some (.own j) => (match σ.get j with
    | some (.slice T2 sz2 xs 0 _) => (match σ.get d with
     | some (.cA T1 e n none) => (match σ.get e with
      | some (.bun els) => bif Nat.beq T T0 && Nat.beq T2 T' && Nat.beq sz2 sz && (σ.get e2).isNone && !ids.contains e2 && σ.clean [e2].contains then
        some (.e [d, e, e2, j] [e2] .undef ((e2, .bun (encS T' sz enc (l.set p row))) :: (d, .cA T1 e2 n none) :: σ.minus [d, e, j]), ([.ptr 0 p', .lst false xs], [(1, .bun els)])) else none
      | _ => none)
     | _ => none)
    | _ => none)
   | _ => none)
  | _ => none)
 | _ => none
theorem akg {α : Type} {T0 T' sz e2 : Nat} {l : List (List α)} {i : Int} {aeP row : List α} {enc : α → List AV} (hT : TyS P T0 1 false) (hi : elO l i = some aeP) {o : Oper} {N : Nat} {ids : List Nat} {env : Env} {σ : Sto} {s : Stp} {ob : Obs}
  (h : soF T0 T' sz e2 i.toNat l row enc ids o.op env σ = some (s, ob)) (he : ob = ([.ptr 0 i.toNat, .lst false (row.map enc)], [(1, .bun (encS T' sz enc l))])) : dy ⟨P, N, ids⟩ o env σ s := by
 cases ho : o.op <;> rw [ho] at h
 case store T x y =>
  simp only [soF] at h
  split at h
  ·rename_i d p' hx
   split at h
   ·rename_i j hy
    split at h
    ·rename_i T2 sz2 xs fz hj
     split at h
     ·rename_i T1 e n hd
      split at h
      ·rename_i els hb
       generalize hc : (Nat.beq T T0 && _ && _ && _ && _ && _) = bb at h
       cases bb with
       | false => cases h
       | true =>
        simp only [Bool.and_eq_true, Bool.not_eq_true'] at hc
        obtain ⟨⟨⟨⟨⟨c1, c2⟩, c3⟩, c4⟩, c5⟩, c6⟩ := hc
        have := Nat.eq_of_beq_eq_true c1
        subst this
        have := Nat.eq_of_beq_eq_true c2
        subst this
        have := Nat.eq_of_beq_eq_true c3
        subst this
        cases h
        simp only [Prod.mk.injEq, List.cons.injEq, AV.ptr.injEq, AV.lst.injEq, bI.bun.injEq, and_true, true_and] at he
        obtain ⟨⟨rfl, rfl⟩, rfl⟩ := he
        have hp : i.toNat < l.length := by
         unfold elO at hi
         split at hi
         ·exact (List.getElem?_eq_some_iff.1 hi).1
         ·cases hi
        exact ⟨D.aii (fz := fz) l enc row ho (Env.aM hx) (Env.aM hy) hj hd hb hp hT (by simpa using c4) c5 c6, by simp only [List.all_cons, List.all_nil, c5]; rfl⟩
      ·cases h
     ·cases h
    ·cases h
   ·cases h
  ·cases h
 all_goals (simp only [soF] at h; cases h)
def hsS {α : Type} {T0 : Nat} {l : List (List α)} {i : Int} {aeP : List α} (T' sz e2 : Nat) (enc : α → List AV) (row : List α) (hT : TyS P T0 1 false) (hi : elO l i = some aeP) : Hint P :=
 .gs true ([.ptr 0 i.toNat, .lst false (row.map enc)], [(1, .bun (encS T' sz enc l))]) (soF T0 T' sz e2 i.toNat l row enc) fun _ _ _ _ _ _ _ h he => akg hT hi h he
/-- a slice of nil rows, made -/
def mrF (T0 d E : Nat) (n : Int) (ids : List Nat) (op : Op) (env : Env) (σ : Sto) : Option (Stp × Obs) := match op with
 | .makeSlice T x y => (match env.evo x with
  | some (.int _ n1) => (match env.evo y with
   | some (.int _ n2) => bif Nat.beq T T0 && !ids.contains d && σ.clean [d].contains then some (.e [d] [d] (.own d) ((d, .slice E 1 (List.replicate n.toNat [.bf]) 0 false) :: σ), ([.int .i64 n1, .int .i64 n2], [])) else none
   | _ => none)
  | _ => none)
 | _ => none
theorem akh {T0 E bytes d : Nat} {n : Int} (hA : iT P T0 E 1 bytes) (hS : jD P T0 E 1 [.slice none 0 0]) (h0 : 0 ≤ n) (hb : n ≤ 4294967296) (hby : bytes ≤ 65536) {o : Oper} {N : Nat} {ids : List Nat} {env : Env} {σ : Sto} {s : Stp} {ob : Obs}
  (h : mrF T0 d E n ids o.op env σ = some (s, ob)) (he : ob = ([.int .i64 n, .int .i64 n], [])) : dy ⟨P, N, ids⟩ o env σ s := by
 cases ho : o.op <;> rw [ho] at h
 case makeSlice T x y =>
  simp only [mrF] at h
  split at h
  ·rename_i k1 n1 hx
   split at h
   ·rename_i k2 n2 hy
    cases hc : (Nat.beq T T0 && !ids.contains d && σ.clean [d].contains) with
    | false => rw [hc] at h; cases h
    | true =>
     rw [hc] at h
     simp only [Bool.and_eq_true, Bool.not_eq_true'] at hc
     obtain ⟨⟨b1, b2⟩, b3⟩ := hc
     have := Nat.eq_of_beq_eq_true b1
     subst this
     cases h
     simp only [Prod.mk.injEq, List.cons.injEq, AV.int.injEq, and_true, true_and] at he
     obtain ⟨rfl, rfl⟩ := he
     exact ⟨D.makeSlice ho (Env.aM hx) (Env.aM hy) hA hS (fun I => by simp [aD]) h0 hb hby b2 b3, by simp only [List.all_cons, List.all_nil, b2]; rfl⟩
   ·cases h
  ·cases h
 all_goals (simp only [mrF] at h; cases h)
def hmr {T0 E bytes : Nat} (d : Nat) (n : Int) (hA : iT P T0 E 1 bytes) (hS : jD P T0 E 1 [.slice none 0 0]) (hn : (decide (0 < n) && decide (n ≤ 4294967296)) = true) (hby : bytes ≤ 65536) : Hint P :=
 .gs true ([.int .i64 n, .int .i64 n], []) (mrF T0 d E n) fun _ _ _ _ _ _ _ h he => by
  simp only [Bool.and_eq_true, decide_eq_true_eq] at hn
  exact akh hA hS (by omega) hn.2 hby h he
end
theorem ane {n : Int} (hn : (decide (0 < n) && decide (n ≤ 4294967296)) = true) : 0 < n.toNat := by
 simp only [Bool.and_eq_true, decide_eq_true_eq] at hn; omega
end Go.Proofs.Ytmfehenfoepkfaa

/- Maps from structs of plain cells. No condition. -/
namespace Go.Proofs.Ytmfehenfoepkfaa
set_option linter.all false
open Go
def gP {κ α : Type} (q : κ → κ → Bool) (l : List (κ × α)) (n : κ) : Option α := (l.find? fun p => q n p.1).map (·.2)
def ny {κ α : Type} (q : κ → κ → Bool) : List (κ × α) → κ → α → List (κ × α)
 | [], n, v => [(n, v)]
 | p :: r, n, v => bif q n p.1 then (n, v) :: r else p :: ny q r n v
def gq {κ α : Type} (ek : κ → AV) (enc : α → AV) (l : List (κ × α)) : List (AV × AV) := l.map fun p => (ek p.1, enc p.2)
def kv {κ : Type} (e : En κ) (x : κ) : AV := .agg (e.enc x)
/-- what must hold of a type of keys -/
structure abZ (P : Program) (K : TypeId) {κ : Type} (ek : κ → AV) (q : κ → κ → Bool) : Prop where
 plain : ∀ a, (ek a).plain = true
 closed : ∀ a, (ek a).closed = true
 now : ∃ kd, P.underlying K = some kd ∧ ∀ a v, Instr.sameNow kd (valOf (ek a)) v = none
 eq : ∀ a b w, (Op.equal K (valOf (ek a)) (valOf (ek b))).run P w = .ok (q a b) w
 chk : ∀ e a w, (Instr.checkKey e 10000 K (valOf (ek a))).run P w = .ok () w
 same : ∀ a b, q a b = true → a = b
 bits : ∀ a, Instr.sameBits 10000 (valOf (ek a)) (valOf (ek a)) = true
structure vg (P : Program) (T K E : TypeId) {κ : Type} (ek : κ → AV) (q : κ → κ → Bool) : Prop where
 und : P.underlying T = some (.map K E)
 key : abZ P K ek q
theorem aD.plain {I : Imm} {a : AV} {v : Value} (hp : a.plain = true) (h : aD I a v) : v = valOf a := lg (β := fun _ => Go.undef) a v hp (aD.rep _ _ _ h)
section
variable {P : Program} {I : Imm} {κ α : Type} {K : TypeId} {ek : κ → AV} {q : κ → κ → Bool} {enc : α → AV}
theorem vh (hK : abZ P K ek q) (n : κ) (w : World) : ∀ (l : List (κ × α)) (es : List MapEntry) (i : Nat) (a : α), dx I (gq ek enc l) es → gP q l n = some a →
  ∃ j v, (Instr.findAsking K (valOf (ek n)) es i).run P w = .ok (some (i + j, v)) w ∧ aD I (enc a) v ∧ ∃ e, es[j]? = some e ∧ e.key = valOf (ek n) ∧
   ∀ (b : α) (u : Value) (kk : MapEntry → MapEntry), aD I (enc b) u → (∀ e, aD I (ek n) (kk e).key ∧ (kk e).val = u) → dx I (gq ek enc (ny q l n b)) (es.modify j kk)
 | [], es, i, a, h, hg => by simp [gP] at hg
 | (m, b) :: r, es, i, a, h, hg => by
  simp only [gq, List.map_cons, dx] at h
  obtain ⟨e, us, rfl, h1, h2, h3⟩ := h
  have h1' := aD.plain (hK.plain m) h1
  have e1 := hK.eq n m w
  cases hm : q n m with
  | true =>
   have := hK.same n m hm
   subst this
   simp only [gP, List.find?, hm, Option.map_some, Option.some.injEq] at hg
   subst hg
   rw [hm] at e1
   refine ⟨0, e.val, ?_, h2, e, rfl, h1', ?_⟩
   ·rw [Instr.findAsking]; simp [h1', e1]
   ·intro c u kk hu hk
    simp only [ny, hm, cond_true, gq, List.map_cons, dx, List.modify_zero_cons]
    exact ⟨kk e, us, rfl, (hk e).1, by rw [(hk e).2]; exact hu, h3⟩
  | false =>
   have hg' : gP q r n = some a := by simpa [gP, List.find?, hm] using hg
   obtain ⟨j, v, q1, q2, e', q3, q4, q5⟩ := vh hK n w r us (i + 1) a h3 hg'
   rw [hm] at e1
   refine ⟨j + 1, v, ?_, q2, e', by simpa using q3, q4, ?_⟩
   ·rw [Instr.findAsking]
    simp only [Sem.run_bind, h1', e1, Result.andThen_ok]
    simp only [Bool.false_eq_true, if_false]
    rw [q1]
    simp [Nat.add_assoc, Nat.add_comm 1 j]
   ·intro c u kk hu hk
    simp only [ny, hm, cond_false, gq, List.map_cons, dx, List.modify_succ_cons]
    exact ⟨e, _, rfl, h1, h2, q5 c u kk hu hk⟩
theorem vi (hK : abZ P K ek q) (n : κ) (w : World) : ∀ (l : List (κ × α)) (es : List MapEntry) (i : Nat), dx I (gq ek enc l) es → gP q l n = none →
  (Instr.findAsking K (valOf (ek n)) es i).run P w = .ok none w ∧ ∀ (b : α) (e : MapEntry), aD I (enc b) e.val → aD I (ek n) e.key → dx I (gq ek enc (ny q l n b)) (es ++ [e])
 | [], es, i, h, hg => by
  simp only [gq, List.map_nil, dx] at h
  subst h
  refine ⟨rfl, fun b e hb hk => ?_⟩
  simp only [ny, gq, List.map_cons, List.map_nil, dx, List.nil_append]
  exact ⟨e, [], rfl, hk, hb, rfl⟩
 | (m, c) :: r, es, i, h, hg => by
  simp only [gq, List.map_cons, dx] at h
  obtain ⟨e, us, rfl, h1, h2, h3⟩ := h
  have h1' := aD.plain (hK.plain m) h1
  have e1 := hK.eq n m w
  have hm : q n m = false := by
   cases hm : q n m with
   | false => rfl
   | true => simp [gP, List.find?, hm] at hg
  rw [hm] at e1
  have hg' : gP q r n = none := by simpa [gP, List.find?, hm] using hg
  obtain ⟨q1, q2⟩ := vi hK n w r us (i + 1) h3 hg'
  refine ⟨?_, fun b e' hb hk => ?_⟩
  ·rw [Instr.findAsking]
   simp only [Sem.run_bind, h1', e1, Result.andThen_ok]
   simp only [Bool.false_eq_true, if_false]
   exact q1
  ·simp only [ny, hm, cond_false, gq, List.map_cons, dx, List.cons_append]
   exact ⟨e, _, rfl, h1, h2, q2 b e' hb hk⟩
theorem aai (hK : abZ P K ek q) (n : κ) (w : World) (es : List MapEntry) : (Instr.findKey K (valOf (ek n)) es).run P w = (Instr.findAsking K (valOf (ek n)) es).run P w := by
 obtain ⟨kd, hu, hs⟩ := hK.now
 have e2 : ∀ w, (underlying K).run P w = .ok kd w := fun w => by simp [underlying, program, Sem.run, hu]
 cases es with
 | nil => simp [Instr.findKey, e2, Instr.findNow, Instr.findAsking]
 | cons e r =>
  rw [Instr.findKey]
  simp only [Sem.run_bind, e2, Result.andThen_ok, Instr.findNow, hs]
end
section
variable {G : Gl} {σ : Sto} {o : Oper} {ev : Operand → AV}
theorem Y.aij {κ α : Type} {T K E d : Nat} {ek : κ → AV} {q : κ → κ → Bool} {x y : Operand} {ok : Bool} {n : κ} (l : List (κ × α)) (enc : α → AV) (z : α) (h : o.op = .lookup T x y ok) (hx : ev x = .cw d) (hy : ev y = ek n) {K' E' : Nat} (hd : σ.get d = some (.map K' E' (gq ek enc l)))
  (hT : vg G.P T K E ek q) (hz : ∀ w, ∃ v, (zeroValue E).run G.P w = .ok v w ∧ ∀ I, aD I (enc z) v) :
  Yields G o ev σ [] [d] (bif ok then .tup [enc ((gP q l n).getD z), .bool (gP q l n).isSome] else enc ((gP q l n).getD z)) :=
 .pure fun σ' cx I β w ρ hR hw hop => by
  have h1 := hop x (by simp [h, Op.operands]); rw [hx] at h1
  have h2 := hop y (by simp [h, Op.operands]); rw [hy] at h2; have h2 := lg _ _ (hT.key.plain n) h2
  obtain ⟨r, es, clock, q0, q2, q3⟩ := tH hw (by rw [hR d (by simp)]; exact hd) h1
  have e1 : ∀ w, (underlying T).run G.P w = .ok (.map K E) w := fun w => by simp [underlying, program, Sem.run, hT.und]
  have e3 := lZ (P := G.P) q2
  have e4 := hT.key.chk (es.isEmpty) n w
  have e0 := aai hT.key n w es.toList
  cases hg : gP q l n with
  | none =>
   obtain ⟨p1, _⟩ := vi hT.key n w l es.toList 0 q3 hg
   obtain ⟨v, z1, z2⟩ := hz w
   have e5 : (Instr.findKey K (valOf (ek n)) es.toList).run G.P w = .ok none w := by rw [e0, p1]
   cases ok with
   | true =>
    refine ⟨.tuple #[v, .bool false], by simp [execOp, h, Instr.lookup, q0, h2, e1, e3, e4, e5, z1], ?_⟩
    simp only [cond_true, Rep, bg]
    exact ⟨_, rfl, v, [.bool false], rfl, aD.rep β _ _ (z2 I), .bool false, [], rfl, by simp [aD], rfl⟩
   | false =>
    refine ⟨v, by simp [execOp, h, Instr.lookup, q0, h2, e1, e3, e4, e5, z1], ?_⟩
    simp only [cond_false]
    exact aD.rep β _ _ (z2 I)
  | some a =>
   obtain ⟨j, v, p1, p2, _⟩ := vh hT.key n w l es.toList 0 a q3 hg
   have e5 : (Instr.findKey K (valOf (ek n)) es.toList).run G.P w = .ok (some (0 + j, v)) w := by rw [e0, p1]
   cases ok with
   | true =>
    refine ⟨.tuple #[v, .bool true], by simp [execOp, h, Instr.lookup, q0, h2, e1, e3, e4, e5], ?_⟩
    simp only [cond_true, Rep, bg]
    exact ⟨_, rfl, v, [.bool true], rfl, aD.rep β _ _ p2, .bool true, [], rfl, by simp [aD], rfl⟩
   | false =>
    refine ⟨v, by simp [execOp, h, Instr.lookup, q0, h2, e1, e3, e4, e5], ?_⟩
    simp only [cond_false]
    exact aD.rep β _ _ p2
theorem D.ab0 {κ α : Type} {T K E d : Nat} {ek : κ → AV} {q : κ → κ → Bool} {x y z : Operand} {n : κ} (l : List (κ × α)) (enc : α → AV) (v : α) (h : o.op = .mapUpdate T x y z ∨ o.op = .insert T x y z) (hx : ev x = .cw d) (hy : ev y = ek n) (hz : ev z = enc v) (hc : (enc v).closed = true)
  {K' E' : Nat} (hd : σ.get d = some (.map K' E' (gq ek enc l))) (hT : vg G.P T K E ek q) :
  fS G o ev σ [d] [] (fun r σ' => r = .undef ∧ σ' = σ.set d (.map K' E' (gq ek enc (ny q l n v)))) := by
 intro cx I β w ρ hw hop
 have sM : x ∈ o.op.operands ∧ y ∈ o.op.operands ∧ z ∈ o.op.operands := by rcases h with h | h <;> simp [h, Op.operands]
 have h1 := hop x sM.1; rw [hx] at h1
 have h2 := hop y sM.2.1; rw [hy] at h2
 have h2c := Rep.closed _ _ (hT.key.closed n) h2
 have h2 := lg _ _ (hT.key.plain n) h2
 have h3 := hop z sM.2.2; rw [hz] at h3
 have h3 := Rep.closed _ _ hc h3
 obtain ⟨r, es, clock, q0, q1, q2, q3, q4, q5, q6⟩ := qC hw hd h1
 have e1 : ∀ w, (underlying T).run G.P w = .ok (.map K E) w := fun w => by simp [underlying, program, Sem.run, hT.und]
 have e3 := lZ (P := G.P) q2
 have e4 := hT.key.chk false n w
 have e0 := aai hT.key n w es.toList
 have ic : ∀ ob : Obj, (setObj r ob).run G.P w = .ok () { w with heap := w.heap.setIfInBounds r ob } := fun ob => by
  have := bX q2
  simp [setObj, Sem.run, q2]
 have main : ∃ es' clock', (execOp ρ o).run G.P w = .ok .skip { w with heap := w.heap.setIfInBounds r (.map es' clock') } ∧ dx I (gq ek enc (ny q l n v)) es'.toList ∧ jC es' clock' := by
  cases hg : gP q l n with
  | none =>
   obtain ⟨p1, p2⟩ := vi hT.key n w l es.toList 0 q3 hg
   have e5 : (Instr.findKey K (valOf (ek n)) es.toList).run G.P w = .ok none w := by rw [e0, p1]
   refine ⟨_, _, by rcases h with h | h <;> simp [execOp, h, Instr.mapUpdate, q0, h2, e1, e3, e4, e5, ic] <;> rfl, ?_, ?_⟩
   rotate_left
   ·exact q6.push _ _
   simpa using p2 v ⟨valOf (ek n), ρ z, clock⟩ h3 (by rw [← h2]; exact h2c)
  | some a =>
   obtain ⟨j, u, p1, p2, e', p3, p4, p5⟩ := vh hT.key n w l es.toList 0 a q3 hg
   have e5 : (Instr.findKey K (valOf (ek n)) es.toList).run G.P w = .ok (some (0 + j, u)) w := by rw [e0, p1]
   have e6 : es[j]? = some e' := by simpa using p3
   have e7 : (Instr.keyThatStays (valOf (ek n)) (valOf (ek n))).run G.P w = .ok (valOf (ek n)) w := by simp [Instr.keyThatStays, hT.key.bits n]
   refine ⟨_, _, by rcases h with h | h <;> simp [execOp, h, Instr.mapUpdate, q0, h2, e1, e3, e4, e5, ic, e6, p4, e7] <;> rfl, ?_, ?_⟩
   ·simpa using p5 v (ρ z) (fun e => { e with key := valOf (ek n), val := ρ z }) h3 (fun e => ⟨by rw [← h2]; exact h2c, rfl⟩)
   ·exact q6.modify _ _ fun _ => rfl
 obtain ⟨es', clock', hrun, hE, hB⟩ := main
 rw [hrun]
 refine ⟨.undef, _, I, β, ⟨rfl, rfl⟩, by simp [Rep, aD], ?_, br.refl I, fun _ _ => rfl, fun x hx => by rw [Sto.dU, if_neg (by simpa using hx)]⟩
 have hbd : blk (β d) = some r := by rw [q1]; rfl
 refine hw.turn (d := d) (Kept.setObj w r _) q5 (fun x hx => by rw [Sto.dU, if_neg hx]) (fun x hx hs e => hw.bY x d hs (by rw [hd]; rfl) hx r e (dQ hbd)) (br.refl I) (fun _ _ _ => rfl)
  (fun o v hv => by rw [q4 o] at hv; cases hv) (q4 none) (fun _ _ => rfl) (.inr rfl) (HLe.refl β) (.inl hbd) fun ob hob => ?_
 rw [Sto.dU, if_pos rfl, hd] at hob
 injection hob with hob
 subst hob
 simp only [az]
 exact .inr ⟨r, es', clock', q1, by have := bX q2; simp [Array.getElem?_setIfInBounds, this], hE, q4, q5, hB⟩
theorem eqK {P : Program} {T : Nat} {xs ys : Array Value} {r : Bool} {w : World} (hu : P.underlying T = some (.struct (P.fieldsOf T))) (hp : P.stoodInHeld T = false) (h : (Op.eqFields 9999 xs ys (P.fieldsOf T).toList).run P w = .ok r w) : (Op.equal T (.agg xs) (.agg ys)).run P w = .ok r w := by
 show (Op.equalIn 10000 T (.agg xs) (.agg ys)).run P w = .ok r w
 rw [run_equalIn_agg w 9999 T _ _ hu hp, h]
end
end Go.Proofs.Ytmfehenfoepkfaa

/- A slice of the acE own, cut behind. No condition but bR bw stand in each. -/
namespace Go.Proofs.Ytmfehenfoepkfaa
set_option linter.all false
open Go
section
variable {G : Gl} {o : Oper} {ev : Operand → AV} {σ : Sto}
theorem x4 {I : Imm} : ∀ {xs : List AV} {vs : List Value} (n : Nat), bH I xs vs → bH I (xs.take n) (vs.take n)
 | [], vs, n, h => by simp only [bH] at h; subst h; simp [bH]
 | x :: r, vs, 0, h => by simp [bH]
 | x :: r, vs, n + 1, h => by
  simp only [bH] at h
  obtain ⟨u, us, rfl, h1, h2⟩ := h
  simp only [List.take_succ_cons, bH]
  exact ⟨u, _, rfl, h1, x4 n h2⟩
theorem vj {α : Type} {sz : Nat} : ∀ {xs : List (List α)} (n : Nat), (∀ e ∈ xs, e.length = sz) → (xs.take n).flatten = xs.flatten.take (n * sz)
 | [], n, _ => by simp
 | x :: r, 0, _ => by simp
 | x :: r, n + 1, h => by
  have hx := h x (by simp)
  rw [List.take_succ_cons, List.flatten_cons, List.flatten_cons, vj n fun e he => h e (by simp [he]), Nat.add_mul, Nat.one_mul, Nat.add_comm (n * sz) sz, List.take_append, hx]
  rw [List.take_of_length_le (l := x) (by omega), Nat.add_sub_cancel_left]
theorem D.cutS {T E sz T' d d2 : Nat} {x y : Operand} {xs : List (List AV)} {k : IntKind} {n : Int} (h : o.op = .slice T x none (some y) none) (hx : ev x = .own d) (hy : ev y = .int k n) (hd : σ.get d = some (.slice T' sz xs 0 false)) (hT : SlS G.P T E sz)
  (hn : 0 ≤ n ∧ n ≤ xs.length) (hi : G.ids.contains d2 = false) (hc : (σ.minus [d]).clean [d2].contains = true) :
  fS G o ev σ [d, d2] [d2] (fun r σ' => r = .own d2 ∧ σ' = (d2, .slice T' sz (xs.take n.toNat) 0 false) :: σ.minus [d]) := by
 intro cx I β w ρ hw hop
 have hs1 := hop x (by simp [h, Op.operands])
 rw [hx] at hs1
 simp only [Rep] at hs1
 obtain ⟨hs1, hs2⟩ := hs1
 have hs3 := hop y (by simp [h, Op.operands])
 rw [hy] at hs3
 have hs3 := dH hs3
 have hw1 : bk G cx I β (σ.minus [d]) w := hw.sub fun x ob hx => by rw [Sto.dw] at hx; split at hx <;> first | cases hx | exact hx
 have ho := hw.bK d _ hd
 simp only [az] at ho
 have run : ∀ (a : Option Addr) (c : Nat), ρ x = .slice a xs.length c → xs.length ≤ c → (execOp ρ o).run G.P w = .ok (.value (.slice (if c = 0 then a else a.map (·.add (0 * sz))) n.toNat c)) w := by
  intro a c h1 h2
  have e1 : (Instr.sliceBounds true xs.length c none (some (.int k n)) none).run G.P w = .ok (0, n.toNat, c) w := by
   have := run_sliceBound (P := G.P) (k := k) (n := n) (y := c) (code := .sliceAcap) (w := w) ⟨hn.1, by omega⟩
   simp [Instr.sliceBounds, this]
  have e2 : ∀ w, (underlying T).run G.P w = .ok (.slice E) w := fun w => run_underlying hT.und w
  simp only [execOp, h, Instr.sliceAt, Instr.slice, h1, Sem.run_bind, e2, Result.andThen_ok, Option.map_some, Option.map_none, hs3, e1, hT.size, Sem.run_pure, Nat.sub_zero]
 have fin : ∀ (v' : Value), (execOp ρ o).run G.P w = .ok (.value v') w → fR v' = true → (∀ b ∈ cc v', b ∈ cc (β d)) → az cx I (eG β d2 v') w d2 (.slice T' sz (xs.take n.toNat) 0 false) →
   jK G.P (fun v w' => ∃ (av : AV) (σ' : Sto) (I' : Imm) (β' : Nat → Value), (av = .own d2 ∧ σ' = (d2, bI.slice T' sz (xs.take n.toNat) 0 false) :: σ.minus [d]) ∧ Rep I' β' av v ∧ bk G cx I' β' σ' w' ∧ br I I' ∧ (∀ x, x ∉ [d2] → β' x = β x) ∧ (∀ x, x ∉ [d, d2] → σ'.get x = σ.get x)) ((execOp ρ o).run G.P w) := by
  intro v' hrun hsl hbd hob
  rw [hrun]
  refine ⟨.own d2, _, I, eG β d2 v', ⟨rfl, rfl⟩, by simp only [Rep, bT, hsl, and_self], ?_, br.refl I, fun x hx => cq β v' (by simpa using hx), fun x hx => ?_⟩
  ·have hb0 : ∀ x, [d2].contains x = false → eG β d2 v' x = β x := fun x hx => cq β v' (by simpa using hx)
   refine { hw1 with bK := fun x ob hx => ?_, bY := fun x y hx hy hne b => ?_, keep := fun x hx => ?_ }
   ·rw [Sto.aR] at hx
    split at hx
    ·rename_i e; subst e; cases hx; exact hob
    ·obtain ⟨c1, c2⟩ := Sto.ck hc x ob hx
     exact (hw1.bK x ob hx).beta hb0 c1 c2
   ·have side : ∀ x, (Sto.get ((d2, bI.slice T' sz (xs.take n.toNat) 0 false) :: σ.minus [d]) x).isSome → x ≠ d2 → (σ.get x).isSome ∧ x ≠ d := fun x hx hn => by
     rw [Sto.aR, if_neg (Ne.symm hn), Sto.dw] at hx
     split at hx
     ·cases hx
     ·rename_i hm; exact ⟨hx, by simpa using hm⟩
    by_cases hx2 : x = d2
    ·subst hx2
     have hy2 : y ≠ x := fun e => hne e.symm
     obtain ⟨s1, s2⟩ := side y hy hy2
     rw [bT, cq β v' hy2]
     intro e1 e2
     exact hw.bY y d s1 (by rw [hd]; rfl) s2 b e2 (hbd b e1)
    ·obtain ⟨s1, s2⟩ := side x hx hx2
     rw [cq β v' hx2]
     by_cases hy2 : y = d2
     ·subst hy2
      rw [bT]
      intro e1 e2
      exact hw.bY x d s1 (by rw [hd]; rfl) s2 b e1 (hbd b e2)
     ·obtain ⟨t1, t2⟩ := side y hy hy2
      rw [cq β v' hy2]
      exact hw.bY x y s1 t1 hne b
   ·have : x ≠ d2 := fun e => by subst e; rw [← Bool.not_eq_true] at hi; exact hi (by simpa using hx)
    rw [cq β v' this]; exact hw.keep x hx
  ·have hx : x ≠ d ∧ x ≠ d2 := by simpa using hx
   rw [Sto.aR, if_neg (Ne.symm hx.2), Sto.dw, if_neg (by simpa using hx.1)]
 rcases ho with q | ⟨q, rfl, _⟩ | ⟨b, cap, arr, q1, q2, q3, q4, q5, q6, q7, q8, q9, q10, q11⟩
 ·rw [q] at hs1; rw [hs1] at hs2; simp [fR] at hs2
 ·have hl0 : n = 0 := by simp at hn; omega
  subst hl0
  refine fin _ (run none 0 (by rw [hs1, q]; rfl) (by simp)) rfl (by simp [cc, blk]) ?_
  simp only [az, bT]; exact .inr (.inl ⟨by simp, by simp, trivial⟩)
 ·have hln : n.toNat ≤ xs.length := by omega
  refine fin _ (run _ cap (by rw [hs1, q1]) q2) rfl ?_ ?_
  ·intro b' hb'
   rw [q1]
   split at hb'
   ·exact hb'
   ·simp only [Option.map_some, dR] at hb'; exact hb'
  ·simp only [az, bT]
   have hlen : (xs.take n.toNat).length = n.toNat := by simp; omega
   refine .inr (.inr ⟨b, cap, arr, ?_, by rw [hlen]; omega, q3, q4, q5, ?_, fun e he => q7 e (List.mem_of_mem_take he), Nat.zero_le _, fun h => by simp at h, q10, q11⟩)
   ·rw [hlen]; split <;> simp [dR]
   ·rw [hlen, vj _ q7]
    have := x4 (n.toNat * sz) q6
    rwa [List.take_take, Nat.min_eq_left (Nat.mul_le_mul_right _ hln)] at this
end
end Go.Proofs.Ytmfehenfoepkfaa

/- Steps on maps from structs of plain cells. No condition but bR bw stand in each. -/
namespace Go.Proofs.Ytmfehenfoepkfaa
set_option linter.all false
open Go
section
variable {P : Program}
/-- a lookup -/
def lKF {κ α : Type} (T0 : Nat) (q : κ → κ → Bool) (l : List (κ × α)) (n : κ) (enc : α → AV) (z : α) (op : Op) (env : Env) (σ : Sto) : Option (Stp × Obs) := match op with
 | .lookup T x y ok => (match env.evo x with
  | some (.cw d) => (match env.evo y with
   | some a => (match σ.get d with
    | some (.map K E aW) => bif Nat.beq T T0 then some (.y [d] (bif ok then .tup [enc ((gP q l n).getD z), .bool (gP q l n).isSome] else enc ((gP q l n).getD z)), ([.mpf aW, a], [])) else none
    | _ => none)
   | _ => none)
  | _ => none)
 | _ => none
theorem aki {κ α : Type} {T0 K0 E0 : Nat} {ek : κ → AV} {q : κ → κ → Bool} {l : List (κ × α)} {n : κ} {enc : α → AV} {z : α} (hT : vg P T0 K0 E0 ek q) (hz : ∀ w, ∃ v, (zeroValue E0).run P w = .ok v w ∧ ∀ I, aD I (enc z) v) {o : Oper} {N : Nat} {ids : List Nat} {env : Env} {σ : Sto} {s : Stp} {ob : Obs}
  (h : lKF T0 q l n enc z o.op env σ = some (s, ob)) (he : ob = ([.mpf (gq ek enc l), ek n], [])) : dy ⟨P, N, ids⟩ o env σ s := by
 cases ho : o.op <;> rw [ho] at h
 case lookup T x y ok =>
  simp only [lKF] at h
  split at h
  ·rename_i d hx
   split at h
   ·rename_i a hy
    split at h
    ·rename_i K E aW hd
     cases hb : Nat.beq T T0 with
     | false => rw [hb] at h; cases h
     | true =>
      rw [hb] at h
      have := Nat.eq_of_beq_eq_true hb
      subst this
      cases h
      simp only [Prod.mk.injEq, List.cons.injEq, AV.mpf.injEq, and_true] at he
      obtain ⟨rfl, rfl⟩ := he
      exact Y.aij l enc z ho (Env.aM hx) (Env.aM hy) hd hT hz
    ·cases h
   ·cases h
  ·cases h
 all_goals (simp only [lKF] at h; cases h)
def hlK {κ α : Type} {T0 K0 E0 : Nat} {ek : κ → AV} {q : κ → κ → Bool} (l : List (κ × α)) (n : κ) (enc : α → AV) (z : α) (hT : vg P T0 K0 E0 ek q) (hz : ∀ w, ∃ v, (zeroValue E0).run P w = .ok v w ∧ ∀ I, aD I (enc z) v) : Hint P :=
 .gs false ([.mpf (gq ek enc l), ek n], []) (fun _ => lKF T0 q l n enc z) fun _ _ _ _ _ _ _ h he => aki hT hz h he
/-- an entry set -/
def mKP {κ α : Type} (T0 : Nat) (ek : κ → AV) (q : κ → κ → Bool) (l : List (κ × α)) (n : κ) (enc : α → AV) (v : α) (T : TypeId) (x y z : Operand) (env : Env) (σ : Sto) : Option (Stp × Obs) :=
 match env.evo x with
  | some (.cw d) => (match env.evo y with
   | some a => (match env.evo z with
    | some b => (match σ.get d with
     | some (.map K E aW) => bif Nat.beq T T0 then some (.e [d] [] .undef (σ.set d (.map K E (gq ek enc (ny q l n v)))), ([.mpf aW, a, b], [])) else none
     | _ => none)
    | _ => none)
   | _ => none)
  | _ => none
def mKF {κ α : Type} (T0 : Nat) (ek : κ → AV) (q : κ → κ → Bool) (l : List (κ × α)) (n : κ) (enc : α → AV) (v : α) (op : Op) (env : Env) (σ : Sto) : Option (Stp × Obs) := match op with
 | .mapUpdate T x y z => mKP T0 ek q l n enc v T x y z env σ
 | .insert T x y z => mKP T0 ek q l n enc v T x y z env σ
 | _ => none
theorem ac0 {κ α : Type} {T0 K0 E0 : Nat} {ek : κ → AV} {q : κ → κ → Bool} {l : List (κ × α)} {n : κ} {enc : α → AV} {v : α} (hT : vg P T0 K0 E0 ek q) (hc : (enc v).closed = true) {o : Oper} {N : Nat} {ids : List Nat} {env : Env} {σ : Sto} {s : Stp} {ob : Obs} {T : TypeId} {x y z : Operand}
  (ho : o.op = .mapUpdate T x y z ∨ o.op = .insert T x y z) (h : mKP T0 ek q l n enc v T x y z env σ = some (s, ob)) (he : ob = ([.mpf (gq ek enc l), ek n, enc v], [])) : dy ⟨P, N, ids⟩ o env σ s := by
 simp only [mKP] at h
 split at h
 ·rename_i d hx
  split at h
  ·rename_i a hy
   split at h
   ·rename_i b hz
    split at h
    ·rename_i K E aW hd
     cases hb : Nat.beq T T0 with
     | false => rw [hb] at h; cases h
     | true =>
      rw [hb] at h
      have := Nat.eq_of_beq_eq_true hb
      subst this
      cases h
      simp only [Prod.mk.injEq, List.cons.injEq, AV.mpf.injEq, and_true] at he
      obtain ⟨rfl, rfl, rfl⟩ := he
      exact ⟨D.ab0 l enc v ho (Env.aM hx) (Env.aM hy) (Env.aM hz) hc hd hT, rfl⟩
    ·cases h
   ·cases h
  ·cases h
 ·cases h
theorem akj {κ α : Type} {T0 K0 E0 : Nat} {ek : κ → AV} {q : κ → κ → Bool} {l : List (κ × α)} {n : κ} {enc : α → AV} {v : α} (hT : vg P T0 K0 E0 ek q) (hc : (enc v).closed = true) {o : Oper} {N : Nat} {ids : List Nat} {env : Env} {σ : Sto} {s : Stp} {ob : Obs}
  (h : mKF T0 ek q l n enc v o.op env σ = some (s, ob)) (he : ob = ([.mpf (gq ek enc l), ek n, enc v], [])) : dy ⟨P, N, ids⟩ o env σ s := by
 cases ho : o.op <;> rw [ho] at h
 case mapUpdate T x y z => exact ac0 hT hc (.inl ho) h he
 case insert T x y z => exact ac0 hT hc (.inr ho) h he
 all_goals (simp only [mKF] at h; cases h)
def hmK {κ α : Type} {T0 K0 E0 : Nat} {ek : κ → AV} {q : κ → κ → Bool} (l : List (κ × α)) (n : κ) (enc : α → AV) (v : α) (hT : vg P T0 K0 E0 ek q) (hc : (enc v).closed = true) : Hint P :=
 .gs true ([.mpf (gq ek enc l), ek n, enc v], []) (fun _ => mKF T0 ek q l n enc v) fun _ _ _ _ _ _ _ h he => akj hT hc h he
/-- a slice of alD own cut behind -/
def cuF (T0 d2 sz : Nat) (zs : List (List AV)) (ids : List Nat) (op : Op) (env : Env) (σ : Sto) : Option (Stp × Obs) := match op with
 | .slice T x none (some y) none => (match env.evo x with
  | some (.own d) => (match env.evo y with
   | some (.int k n) => (match σ.get d with
    | some (.slice T' sz' xs 0 false) => bif Nat.beq T T0 && Nat.beq sz' sz && !ids.contains d2 && (σ.minus [d]).clean [d2].contains then some (.e [d, d2] [d2] (.own d2) ((d2, .slice T' sz' zs 0 false) :: σ.minus [d]), ([.lst false xs, .int .i64 n], [])) else none
    | _ => none)
   | _ => none)
  | _ => none)
 | _ => none
theorem akk {T0 E d2 sz : Nat} {xs zs : List (List AV)} {n : Int} (hT : SlS P T0 E sz) (pf : Sl sz xs 0 n zs) {o : Oper} {N : Nat} {ids : List Nat} {env : Env} {σ : Sto} {s : Stp} {ob : Obs}
  (h : cuF T0 d2 sz zs ids o.op env σ = some (s, ob)) (he : ob = ([.lst false xs, .int .i64 n], [])) : dy ⟨P, N, ids⟩ o env σ s := by
 cases ho : o.op <;> rw [ho] at h
 case slice T x lo hi mx =>
  cases lo with
  | some m => simp only [cuF] at h; cases h
  | none =>
  cases hi with
  | none => simp only [cuF] at h; cases h
  | some y =>
  cases mx with
  | some m => simp only [cuF] at h; cases h
  | none =>
   simp only [cuF] at h
   split at h
   ·rename_i d hx
    split at h
    ·rename_i k n' hy
     split at h
     ·rename_i T' sz' xs' hd
      generalize hb : (Nat.beq T T0 && _ && _ && _) = bb at h
      cases bb with
      | false => cases h
      | true =>
       simp only [cond_true] at h
       simp only [Bool.and_eq_true, Bool.not_eq_true'] at hb
       obtain ⟨⟨⟨b1, b2⟩, b3⟩, b4⟩ := hb
       have := Nat.eq_of_beq_eq_true b1
       subst this
       have := Nat.eq_of_beq_eq_true b2
       subst this
       cases h
       simp only [Prod.mk.injEq, List.cons.injEq, AV.lst.injEq, AV.int.injEq, and_true, true_and] at he
       obtain ⟨rfl, rfl⟩ := he
       obtain ⟨p1, p2, p3⟩ := pf
       refine ⟨?_, by simpa using b3⟩
       have hD := D.cutS (G := ⟨P, N, ids⟩) (d2 := d2) ho (Env.aM hx) (Env.aM hy) hd hT ⟨by omega, p2.2.2⟩ b3 b4
       rw [← p3]
       simpa using hD
     ·cases h
    ·cases h
   ·cases h
 all_goals (simp only [cuF] at h; cases h)
def hcu {T0 E sz : Nat} (d2 : Nat) {xs zs : List (List AV)} {n : Int} (hT : SlS P T0 E sz) (pf : Sl sz xs 0 n zs) : Hint P :=
 .gs true ([.lst false xs, .int .i64 n], []) (fun ids => cuF T0 d2 sz zs ids) fun _ _ _ _ _ _ _ h he => akk hT pf h he
/-- a new map from structs -/
def mmF (d K E : Nat) (ids : List Nat) (op : Op) (_ : Env) (_ : Sto) : Option (Stp × Obs) := match op with
 | .makeMap _ none => bif !ids.contains d then some (.v d (.map K E []) (.cw d), ([], [])) else none
 | _ => none
theorem akl {d K E : Nat} {o : Oper} {N : Nat} {ids : List Nat} {env : Env} {σ : Sto} {s : Stp} {ob : Obs} (h : mmF d K E ids o.op env σ = some (s, ob)) : dy ⟨P, N, ids⟩ o env σ s := by
 cases ho : o.op <;> rw [ho] at h
 case makeMap T r =>
  cases r with
  | some r => simp only [mmF] at h; cases h
  | none =>
   simp only [mmF] at h
   cases hi : ids.contains d with
   | true => rw [hi] at h; cases h
   | false => rw [hi] at h; cases h; exact ⟨hi, Y.makeMap ho hi⟩
 all_goals (simp only [mmF] at h; cases h)
def hmm (d K E : Nat) : Hint P := .gs true ([], []) (fun ids => mmF d K E ids) fun _ _ _ _ _ _ _ h _ => akl h
/-- a full slice pK to by uN -/
theorem akm {α : Type} (e : En α) {l r m : List α} (h : dV l r = some m) (hl : 0 < l.length) : 0 < (ml e m).length := by
 obtain ⟨_, h2⟩ := zd h
 rw [gh, ← h2, List.length_append]
 omega
def anF (T0 E d2 sz : Nat) (zs : List (List AV)) (ids : List Nat) (op : Op) (env : Env) (σ : Sto) : Option (Stp × Obs) := match op with
 | .call c => match c.callee with
  | .builtin b => (match b with
   | .append => (match c.args.toList with
    | [s, x] => (match c.argTypes.toList with
     | [T, T2] => bif Nat.beq T T0 && Nat.beq T2 T0 && !ids.contains d2 && σ.clean [d2].contains then (match env.evo x with
       | none => none
       | some ax => match eD [] σ ax with
        | some (.lst f ys) => (match env.evo s with
         | some (.lst true xs) => some (.e [d2] [d2] (.own d2) ((d2, .slice E sz zs 0 false) :: σ), ([.lst false xs, .lst false ys], []))
         | _ => none)
        | _ => none) else none
     | _ => none)
    | _ => none)
   | _ => none)
  | _ => none
 | _ => none
theorem akn {T0 E d2 sz bytes : Nat} {xs ys zs : List (List AV)} (hT : iT P T0 E sz bytes) (pf : Ap sz bytes xs ys zs) (hne : 0 < ys.length) {o : Oper} {N : Nat} {ids : List Nat} {env : Env} {σ : Sto} {s : Stp} {ob : Obs}
  (h : anF T0 E d2 sz zs ids o.op env σ = some (s, ob)) (he : ob = ([.lst false xs, .lst false ys], [])) : dy ⟨P, N, ids⟩ o env σ s := by
 obtain ⟨p0, p1, p2, p3, p4, p5⟩ := pf
 cases ho : o.op <;> rw [ho] at h
 case call c =>
  obtain ⟨cl, args, tys⟩ := c
  simp only [anF] at h
  split at h
  ·split at h
   ·split at h
    ·rename_i s0 x0 hx0
     have : args = #[s0, x0] := Array.toList_inj.1 (by simpa using hx0)
     subst this
     split at h
     ·rename_i T T2 hT0
      have : tys = #[T, T2] := Array.toList_inj.1 (by simpa using hT0)
      subst this
      generalize hb : (Nat.beq T T0 && _ && _ && _) = bb at h
      cases bb with
      | false => cases h
      | true =>
       simp only [cond_true] at h
       simp only [Bool.and_eq_true, Bool.not_eq_true'] at hb
       obtain ⟨⟨⟨b1, b2⟩, b3⟩, b4⟩ := hb
       have := Nat.eq_of_beq_eq_true b1
       subst this
       have := Nat.eq_of_beq_eq_true b2
       subst this
       split at h
       ·cases h
       ·rename_i ax hx
        split at h
        ·rename_i f ys' hs
         have hse : ec σ (env.ev x0) (.lst f ys') := by rw [Env.aM hx]; exact jZ hs
         split at h
         ·rename_i xs' hs0
          cases h
          simp only [Prod.mk.injEq, List.cons.injEq, AV.lst.injEq, and_true, true_and] at he
          obtain ⟨rfl, rfl⟩ := he
          refine ⟨?_, by simpa using b3⟩
          rw [← p0]
          exact D.yx (G := ⟨P, N, ids⟩) ho (.inr ⟨Env.aM hs0, hne⟩) hse hT p1 p2 p3 p4 p5 b3 b4
         ·cases h
        ·cases h
     ·cases h
    ·cases h
   ·cases h
  ·cases h
 all_goals (simp only [anF] at h; cases h)
def ako {T0 E sz bytes : Nat} (d2 : Nat) {xs ys zs : List (List AV)} (hT : iT P T0 E sz bytes) (pf : Ap sz bytes xs ys zs) (hne : 0 < ys.length) : Hint P :=
 .gs true ([.lst false xs, .lst false ys], []) (fun ids => anF T0 E d2 sz zs ids) fun _ _ _ _ _ _ _ h he => akn hT pf hne h he
end
/-! the length of an own slice, known by its header alone, tr is stored uI it meanwhile -/
section hdr
theorem bp.hdr {G : Gl} {env : Env} {σ : Sto} {d e T sz k : Nat} {fz : Bool} {xs : List (List AV)} (n : Nat) (hd : σ.get d = some (.slice T sz xs k fz)) (hn : xs.length = n) {dc Tc i t q : Nat} {cs : List AV} (c1 : σ.get dc = some (.cells Tc cs)) (c2 : cs[i]? = some (AV.own d)) (ht : env.get t = .ptr dc q) (he : σ.get e = none) (hi : G.ids.contains e = false) (hc : env.clean [e].contains = true) (hs : σ.clean [e].contains = true)
  (hde : (d == e) = false) :
  bp G env σ env ((e, .hdr d n) :: σ) := fun cx I β a w h h' => by
 have hde' : d ≠ e := by simpa using hde
 refine ⟨I, eG β e (.pointer none), ?_, aeK h' hc fun y hy => cq β _ hy⟩
 have b2e : eG β e (.pointer none) e = .pointer none := bT _ _ _
 have hb : ∀ y, [e].contains y = false → eG β e (.pointer none) y = β y := fun y hy => cq β _ (by simpa using hy)
 -- the slice sX
 have hsl : fR (β d) = true := by
  have r1 := h' t
  rw [ht] at r1
  simp only [Rep] at r1
  obtain ⟨b, r2, _⟩ := r1
  have ho := h.bK dc _ c1
  simp only [az] at ho
  rcases ho with q0 | ⟨b', arr, q1, q2, q3, _⟩
  ·rw [q0] at r2; cases r2
  ·have : ∀ (cs : List AV) (vs : List Value) (i : Nat), bg I β cs vs → cs[i]? = some (.own d) → fR (β d) = true := by
    intro cs
    induction cs with
    | nil => intro vs i _ h; simp at h
    | cons x r ih =>
     intro vs i hr hi2
     simp only [bg] at hr
     obtain ⟨u, us, rfl, g1, g2⟩ := hr
     cases i with
     | zero =>
      simp at hi2; subst hi2
      simp only [Rep] at g1
      rw [← g1.1]; exact g1.2
     | succ i => exact ih us i g2 (by simpa using hi2)
   exact this cs _ i q3 c2
 refine { h with bK := fun y o hy => ?_, bY := fun y y' h1 h2 hne b hb1 hb2 => ?_, keep := fun y hy => ?_ }
 ·rw [Sto.aR] at hy
  split at hy
  ·rename_i ey; subst ey; cases hy
   refine ⟨b2e, ?_⟩
   rw [cq β _ hde']
   have ho := h.bK d _ hd
   simp only [az] at ho
   rcases ho with q | ⟨q1, q2, _⟩ | ⟨b, cap, arr, q1, _⟩
   ·rw [q] at hsl; cases hsl
   ·subst q2; simp at hn; subst hn; exact ⟨_, _, q1⟩
   ·rw [hn] at q1; exact ⟨_, _, q1⟩
  ·obtain ⟨c1, c2⟩ := Sto.ck hs y o hy
   exact (h.bK y o hy).beta hb c1 c2
 ·by_cases e1 : y = e
  ·subst e1; rw [b2e] at hb1; simp [cc, blk] at hb1
  ·by_cases e2 : y' = e
   ·subst e2; rw [b2e] at hb2; simp [cc, blk] at hb2
   ·rw [cq β _ e1] at hb1; rw [cq β _ e2] at hb2
    rw [Sto.aR, if_neg (Ne.symm e1)] at h1; rw [Sto.aR, if_neg (Ne.symm e2)] at h2
    exact h.bY y y' h1 h2 hne b hb1 hb2
 ·have : y ≠ e := fun e1 => by subst e1; rw [List.contains_iff_mem.2 hy] at hi; cases hi
  rw [cq β _ this]; exact h.keep y hy
variable {P : Program}
theorem Y.lenH {G : Gl} {σ : Sto} {o : Oper} {ev : Operand → AV} {T d e n : Nat} {x : Operand} {kk} (h : o.op = .call ⟨.builtin .len, #[x], kk⟩) (hk : kk = #[T]) (hx : ev x = .own d) (hd : σ.get e = some (.hdr d n)) {E : Nat} (hT : G.P.underlying T = some (.slice E)) :
  Yields G o ev σ [] [e] (.int .i64 (n : Int)) :=
 .pure fun σ' cx I β w ρ hR hw hop => by
  subst hk
  have h1 := hop x (by simp [h, Op.operands, Call.operands]); rw [hx] at h1
  simp only [Rep] at h1
  obtain ⟨h1, _⟩ := h1
  have ho := hw.bK e _ (by rw [hR e (by simp)]; exact hd)
  obtain ⟨_, a, c, q⟩ := ho
  rw [q] at h1
  have e1 : ∀ w, (underlying T).run G.P w = .ok (.slice E) w := fun w => by simp [underlying, program, Sem.run, hT]
  exact ⟨.int .i64 n, by simp [execOp, h, resolve, invoke, builtin, Builtin.len_, h1, e1, goInt], by simp [Rep, aD]⟩
def lhF (T0 e : Nat) (op : Op) (env : Env) (σ : Sto) : Option (Stp × Obs) := match op with
 | .call ⟨.builtin .len, args, tys⟩ => match args.toList, tys.toList with
  | [x], [T] => (match env.evo x with
   | some (.own d) => (match σ.get e with
    | some (.hdr d' n) => bif Nat.beq d' d && Nat.beq T T0 then some (.y [e] (.int .i64 (n : Int)), ([], [])) else none
    | _ => none)
   | _ => none)
  | _, _ => none
 | _ => none
theorem akp {T0 e E sz : Nat} (hT : SlS P T0 E sz) {o : Oper} {N : Nat} {ids : List Nat} {env : Env} {σ : Sto} {s : Stp} {ob : Obs} (h : lhF T0 e o.op env σ = some (s, ob)) : dy ⟨P, N, ids⟩ o env σ s := by
 unfold lhF at h
 split at h
 ·rename_i args tys ho
  split at h
  ·rename_i x T ha ht
   have e1 : args = #[x] := by simpa using congrArg List.toArray ha
   have e2 : tys = #[T] := by simpa using congrArg List.toArray ht
   subst e1 e2
   split at h
   ·rename_i d hx
    split at h
    ·rename_i d' n hd
     cases hc : (Nat.beq d' d && Nat.beq T T0) with
     | false => rw [hc] at h; cases h
     | true =>
      rw [hc] at h
      simp only [Bool.and_eq_true] at hc
      have := Nat.eq_of_beq_eq_true hc.1
      subst this
      have := Nat.eq_of_beq_eq_true hc.2
      subst this
      cases h
      exact Y.lenH (G := ⟨P, N, ids⟩) ho rfl (Env.aM hx) hd hT.und
    ·cases h
   ·cases h
  ·cases h
 ·cases h
def hlh {T0 E sz : Nat} (e : Nat) (hT : SlS P T0 E sz) : Hint P := .gs false ([], []) (fun _ op env σ => lhF T0 e op env σ) fun _ _ _ _ _ _ _ h _ => akp hT h
end hdr
end Go.Proofs.Ytmfehenfoepkfaa
