/- The rules for appends, parts of slices, function values, parts of structs. No condition. -/
import Derived.Test.YtggbjbcgfelgiaaA7
import Derived.Maps.AppendAt
namespace Go.Proofs.Ytggbjbcgfelgiaa
set_option linter.all false
open Go

/-- the facts on a slice type that an append wants -/
structure AppS (P : Program) (T E sz bytes : Nat) : Prop where
  und : P.underlying T = some (.slice E)
  info : ∃ i z, P.info? E = some i ∧ i.zero = some z ∧ i.size = sz ∧ i.bytes = bytes ∧ z.cells.size = sz
  pos : 0 < sz

theorem RepRows_vals {I : Imm} {b : Nat} {w : World} (hg : ∀ b o v, I b o = some v → w.cell? ⟨b, o, none⟩ = some v) : ∀ (xs : List (List AV)) (o : Nat), RepRows I b xs o →
    ∃ vs : List Value, RepCs I xs.flatten vs ∧ ∀ j v, vs[j]? = some v → w.cell? ⟨b, o + j, none⟩ = some v
  | [], o, _ => ⟨[], rfl, fun j v h => by simp at h⟩
  | e :: r, o, h => by
    simp only [RepRows] at h
    obtain ⟨vs, h1, h2⟩ := RepRow_vals hg e o h.1
    obtain ⟨us, h3, h4⟩ := RepRows_vals hg r (o + e.length) h.2
    have hl := RepCs_length _ _ h1
    refine ⟨vs ++ us, by simp only [List.flatten_cons]; exact (RepCs_append _ _ _).2 ⟨vs, us, rfl, h1, h3⟩, fun j v hv => ?_⟩
    rcases Nat.lt_or_ge j vs.length with hj | hj
    · rw [List.getElem?_append_left hj] at hv; exact h2 j v hv
    · rw [List.getElem?_append_right hj] at hv
      have := h4 (j - vs.length) v hv
      rwa [hl, show o + e.length + (j - e.length) = o + j from by omega] at this

theorem RepCs_one {I : Imm} : ∀ (cs : List AV) (vs : List Value), cs.all AV.one = true → RepCs I cs vs → ∀ v ∈ vs, v.oneCell' = true := fun cs vs hc h =>
  RepL_one (β := fun _ => undef) cs vs hc (RepCs.rep _ cs vs h)

section ops
variable {G : Gl} {o : Oper} {ev : Operand → AV} {σ : Sto}

theorem run_append_op {P : Program} {o : Oper} {s x : Operand} {t : Nat} {ρ : Operand → Value} {w w' : World} {v' : Value} (h : o.op = .call ⟨.builtin .append, #[s, x], #[t, t]⟩) (hr : (Builtin.append_ #[t, t] o.type #[ρ s, ρ x]).run P w = .ok v' w') :
    (execOp ρ o).run P w = .ok (.value v') w' := by
  simp [execOp, h, resolve, invoke, builtin, hr]

theorem take_splice {α : Type} (L news : List α) (n j : Nat) (hj : j < n) (hn : n ≤ L.length) : (L.take n ++ news ++ L.drop (n + news.length))[j]? = L[j]? := by
  rw [List.append_assoc, List.getElem?_append_left (by rw [List.length_take]; omega), List.getElem?_take, if_pos hj]

/-- an owned slice, or a nil one, appended to: it goes, a new one comes -/
theorem D.append {s x : Operand} {T E sz bytes d d2 T' k : Nat} {f fz : Bool} {xs ys : List (List AV)} (h : o.op = .call ⟨.builtin .append, #[s, x], #[T, T]⟩) (hs : ev s = .own d) (hd : σ.get d = some (.slice T' sz xs k fz)) (hx : Seal σ (ev x) (.lst f ys)) (hT : AppS G.P T E sz bytes) (hE : T' = E)
    (hys : ∀ e ∈ ys, e.length = sz) (h1 : ys.flatten.all AV.one = true) (hb : (xs.length + ys.length) * bytes ≤ 140737488355328) (h63 : xs.length + ys.length ≤ maxLen) (hi : G.ids.contains d2 = false)
    (hc : (σ.minus [d]).clean [d2].contains = true) :
    Does G o ev σ [d, d2] [d2] (fun r σ' => r = .own d2 ∧ σ' = (d2, .slice T' sz (xs ++ ys) k false) :: σ.minus [d]) := by
  subst hE
  intro cx I β w ρ hw hop
  have hs1 := hop s (by simp [h, Op.operands, Call.operands])
  rw [hs] at hs1
  simp only [Rep] at hs1
  obtain ⟨hs1, hs2⟩ := hs1
  have hx1 := hx.rep hw _ (hop x (by simp [h, Op.operands, Call.operands]))
  simp only [Rep, RepC] at hx1
  obtain ⟨a, c, hx1, hx2, hx3, _, hx4⟩ := hx1
  obtain ⟨i, z, hi1, hz1, hz2, hz3, hz4⟩ := hT.info
  -- the new cells
  have hnews : ∃ news : List Value, RepCs I ys.flatten news ∧ (ys.length = 0 ∨ ∃ ad : Addr, a = some ad ∧ ∀ j u, news[j]? = some u → w.cell? (ad.add j) = some u) := by
    rcases hx4 with rfl | ⟨b, o, rfl, hr⟩
    · exact ⟨[], rfl, .inl rfl⟩
    · obtain ⟨vs, q1, q2⟩ := RepRows_vals hw.good ys o hr
      exact ⟨vs, q1, .inr ⟨_, rfl, fun j u hu => by rw [addr_add]; exact q2 j u hu⟩⟩
  obtain ⟨news, hn1, hn2⟩ := hnews
  have hnl : news.length = ys.length * sz := by rw [RepCs_length _ _ hn1]; exact flatten_len ys hys
  have hone := RepCs_one _ _ h1 hn1
  have hsm : xs.length + ys.length ≤ 9223372036854775807 := by simp only [maxLen] at h63; omega
  -- the old object goes; the new one is virtual
  have hw1 : RelW G cx I β (σ.minus [d]) w := hw.sub fun x ob hx => by rw [Sto.minus_get] at hx; split at hx <;> first | cases hx | exact hx
  have hw2 := hw1.virt (mat := [d2]) (σ2 := (d2, .slice T' sz (xs ++ ys) k false) :: σ.minus [d]) (env := []) ⟨fun x hx => by rw [Sto.get_cons, if_neg (fun e => hx (by simp [e]))], fun x hx => by simp at hx; subst hx; simpa using hi, rfl, hc⟩
  have hset : ∀ x, x ≠ d2 → setH β [d2] x = β x := fun x hx => by simp [setH, hx]
  have fin : ∀ (v' : Value) (w' : World) (b : Nat), (execOp ρ o).run G.P w = .ok (.value v') w' → isSl v' = true → Kept w w' b → Place cx b → (∀ x, ((σ.minus [d]).get x).isSome → blk (β x) ≠ some b) →
      (∀ o v, I b o = some v → w'.cell? ⟨b, o, none⟩ = some v) → (blk v' = some b ∨ blk v' = none) → ObjRep cx I (updH β d2 v') w' d2 (.slice T' sz (xs ++ ys) k false) →
      UponV G.P (fun v w' => ∃ (av : AV) (σ' : Sto) (I' : Imm) (β' : Nat → Value), (av = .own d2 ∧ σ' = (d2, AObj.slice T' sz (xs ++ ys) k false) :: σ.minus [d]) ∧ Rep I' β' av v ∧ RelW G cx I' β' σ' w' ∧ ImmLe I I' ∧ (∀ x, x ∉ [d2] → β' x = β x) ∧ (∀ x, x ∉ [d, d2] → σ'.get x = σ.get x)) ((execOp ρ o).run G.P w) := by
    intro v' w' b hrun hsl hk hp hfree hgood hbd hob
    rw [hrun]
    refine ⟨.own d2, _, I, updH β d2 v', ⟨rfl, rfl⟩, by simp only [Rep, updH_same, hsl, and_self], ?_, ImmLe.refl I, fun x hx => updH_ne β v' (by simpa using hx), fun x hx => ?_⟩
    · refine hw2.turn (d := d2) hk hp (fun _ _ => rfl) (fun x hx hsm e => ?_) (ImmLe.refl I) (fun _ _ _ => rfl) hgood (fun x hx => by rw [updH_ne β v' hx, hset x hx]) (.inl (by simpa using hi)) (fun x => ?_) (by rw [updH_same]; exact hbd) (fun ob hob' => ?_)
      · rw [Sto.get_cons, if_neg (Ne.symm hx)] at hsm
        rw [hset x hx] at e
        exact hfree x hsm e
      · by_cases hx : x = d2
        · left; simp [setH, hx]
        · right; rw [updH_ne β v' hx, hset x hx]
      · rw [Sto.get_cons, if_pos rfl] at hob'
        injection hob' with hob'
        subst hob'
        exact hob
    · have hx : x ≠ d ∧ x ≠ d2 := by simpa using hx
      rw [Sto.get_cons, if_neg (Ne.symm hx.2), Sto.minus_get, if_neg (by simpa using hx.1)]
  -- others' blocks
  have other : ∀ b, blk (β d) = some b → ∀ x, ((σ.minus [d]).get x).isSome → blk (β x) ≠ some b := fun b hbd x hx e => by
    rw [Sto.minus_get] at hx
    split at hx
    · cases hx
    · rename_i hxd
      exact hw.sep x d hx (by rw [hd]; rfl) (by simpa using hxd) b e hbd
  have fresh : ∀ x, ((σ.minus [d]).get x).isSome → blk (β x) ≠ some w.heap.size := fun x hx e => by
    obtain ⟨ob, hx⟩ := Option.isSome_iff_exists.1 hx
    exact absurd (hw1.obj_lt hx e) (by omega)
  have fgood : ∀ (w' : World) o v, I w.heap.size o = some v → w'.cell? ⟨w.heap.size, o, none⟩ = some v := fun w' o v hv => by rw [hw.imm_none (Nat.le_refl _)] at hv; cases hv
  have newcap : ∀ old, old < xs.length + ys.length → xs.length + ys.length ≤ grownCap w (xs.length + ys.length) old T' ∧ grownCap w (xs.length + ys.length) old T' ≤ maxLen := fun old _ => ⟨grownCap_ge _ _ _ _, grownCap_le_maxLen _ _ _ _ h63⟩
  -- the object in a new block
  have newobj : ∀ (olds : List Value) (cap : Nat), RepCs I xs.flatten olds → olds.length = xs.length * sz → (∀ e ∈ xs, e.length = sz) → k ≤ xs.length → xs.length + ys.length ≤ cap → cap ≤ maxLen →
      ObjRep cx I (updH β d2 (.slice (some ⟨w.heap.size, 0, none⟩) (xs.length + ys.length) cap)) (w.drew.alloc (.cells (olds.toArray ++ news.toArray ++ Builtin.zeroCells z.cells (cap - (xs.length + ys.length))) T')) d2 (.slice T' sz (xs ++ ys) k false) := by
    intro olds cap ho1 ho2 ho3 ho4 hc1 hc2
    simp only [ObjRep, updH_same]
    have hlen : (olds ++ news).length = (xs ++ ys).length * sz := by rw [List.length_append, List.length_append, ho2, hnl, Nat.add_mul]
    refine .inr (.inr ⟨w.heap.size, cap, _, by rw [List.length_append], by rw [List.length_append]; exact hc1, hc2, heap_alloc_new w.drew _, ?_, ?_, ?_, by rw [List.length_append]; omega, by simp, fun o _ => hw.imm_none (Nat.le_refl _) o, .inl hw.size⟩)
    · simp only [Array.size_append, List.size_toArray, size_zeroCells, hz4, ho2, hnl, ← Nat.add_mul]
      congr 1
      omega
    · have : (olds.toArray ++ news.toArray ++ Builtin.zeroCells z.cells (cap - (xs.length + ys.length))).toList.take ((xs ++ ys).length * sz) = olds ++ news := by
        simp only [Array.toList_append, List.append_assoc]
        rw [← List.append_assoc, ← hlen]
        exact List.take_left
      rw [this, List.flatten_append]
      exact (RepCs_append _ _ _).2 ⟨_, _, rfl, ho1, hn1⟩
    · intro e he
      rcases List.mem_append.1 he with he | he
      · exact ho3 e he
      · exact hys e he
  have kalloc : ∀ ob, Kept w (w.drew.alloc ob) w.heap.size := fun ob => (Kept.alloc w.drew ob).drew
  have ho := hw.objs d _ hd
  simp only [ObjRep] at ho
  rcases ho with q | ⟨q, rfl, rfl⟩ | ⟨b, cap, arr, q1, q2, q3, q4, q5, q6, q7, q8, q9, q10, q11⟩
  · rw [q] at hs1; rw [hs1] at hs2; simp [isSl] at hs2
  · -- nil
    rcases Nat.eq_zero_or_pos ys.length with hm | hm
    · have hy : ys = [] := List.eq_nil_of_length_eq_zero hm
      subst hy
      refine fin (.slice none 0 0) w w.heap.size (run_append_op h ?_) rfl ⟨fun _ _ _ => rfl, Nat.le_refl _, rfl, rfl, rfl⟩ (.inl hw.size) fresh (fgood w) (.inr rfl) ?_
      · rw [hs1, hx1, q]
        cases a <;> simp [Builtin.append_, run_underlying hT.und, Go.sizeOf, typeInfo, hi1, Builtin.lenOf, Builtin.firstCells, loadCells, loadCellsFrom]
      · simp only [ObjRep, updH_same]; exact .inr (.inl ⟨trivial, rfl, trivial⟩)
    · obtain ⟨ad, rfl, hcells⟩ := hn2.resolve_left (by omega)
      have hr := run_append_nil (P := G.P) w T o.type T' i z hT.und hi1 hz1 ad ys.length c news (by rw [hz2]; exact hnl) hcells hm (by simp at hsm; omega) (by simp at hb; rw [hz3]; omega)
      obtain ⟨g1, g2⟩ := newcap 0 (by simp; exact hm)
      simp only [List.length_nil, Nat.zero_add] at g1 g2
      refine fin _ _ w.heap.size (run_append_op h (by rw [hs1, hx1, q]; exact hr)) rfl (kalloc _) (.inl hw.size) fresh (fgood _) (.inl rfl) ?_
      have := newobj [] (grownCap w ys.length 0 T') rfl (by simp) (by simp) (Nat.le_refl _) (by simpa using g1) g2
      simpa using this
  · have hbd : blk (β d) = some b := by rw [q1]; rfl
    have hlt := lt_of_some q4
    have hal : arr.toList.length = cap * sz := by simpa using q5
    have hxl : xs.length * sz ≤ arr.toList.length := by rw [hal]; exact Nat.mul_le_mul_right _ q2
    have hkl : ∀ o v, I b o = some v → o < xs.length * sz := fun o v hv => by
      rcases Nat.lt_or_ge o (k * sz) with hk | hk
      · exact Nat.lt_of_lt_of_le hk (Nat.mul_le_mul_right _ q8)
      · rw [q10 o hk] at hv; cases hv
    by_cases hroom : xs.length + ys.length ≤ cap
    · -- there is room
      have hlen : (arr.toList.take (xs.length * sz) ++ news).length = (xs ++ ys).length * sz := by rw [List.length_append, List.length_take, Nat.min_eq_left hxl, List.length_append, hnl, Nat.add_mul]
      have hobj : ∀ (w' : World) (arr' : Array Value), w'.heap[b]? = some (.cells arr' T' (0, 0)) → arr'.toList = arr.toList.take (xs.length * sz) ++ news ++ arr.toList.drop (xs.length * sz + news.length) →
          ObjRep cx I (updH β d2 (.slice (some ⟨b, 0, none⟩) (xs.length + ys.length) cap)) w' d2 (.slice T' sz (xs ++ ys) k false) := by
        intro w' arr' hh he
        simp only [ObjRep, updH_same]
        refine .inr (.inr ⟨b, cap, arr', by rw [List.length_append], by rw [List.length_append]; exact hroom, q3, hh, ?_, ?_, ?_, by rw [List.length_append]; omega, by simp, q10, q11⟩)
        · have hroom2 : xs.length * sz + news.length ≤ arr.toList.length := by rw [hnl, ← Nat.add_mul, hal]; exact Nat.mul_le_mul_right _ hroom
          have hal' : arr'.size = arr'.toList.length := by simp
          rw [hal', he, ← hal]
          simp only [List.length_append, List.length_take, List.length_drop]
          omega
        · rw [he, ← hlen, List.take_left, List.flatten_append]
          exact (RepCs_append _ _ _).2 ⟨_, _, rfl, q6, hn1⟩
        · intro e he
          rcases List.mem_append.1 he with he | he
          · exact q7 e he
          · exact hys e he
      rcases Nat.eq_zero_or_pos ys.length with hm | hm
      · have hy : ys = [] := List.eq_nil_of_length_eq_zero hm
        subst hy
        have hnn : news = [] := List.eq_nil_of_length_eq_zero (by simpa using hnl)
        subst hnn
        refine fin (.slice (some ⟨b, 0, none⟩) xs.length cap) w b (run_append_op h ?_) rfl ⟨fun _ _ _ => rfl, Nat.le_refl _, rfl, rfl, rfl⟩ q11 (other b hbd) (fun o v hv => hw.good b o v hv) (.inl rfl) ?_
        · rw [hs1, hx1, q1]
          cases a <;> simp [Builtin.append_, run_underlying hT.und, Go.sizeOf, typeInfo, hi1, Builtin.lenOf, Builtin.firstCells, loadCells, loadCellsFrom, q2, storeCells]
        · have := hobj w arr q4 (by simp)
          simpa using this
      · obtain ⟨ad, rfl, hcells⟩ := hn2.resolve_left (by omega)
        have hfit : xs.length * i.size + news.length ≤ arr.size := by rw [hz2, hnl, q5, ← Nat.add_mul]; exact Nat.mul_le_mul_right _ hroom
        have hr := run_append_room (P := G.P) w T o.type T' i hT.und hi1 b xs.length cap arr q4 ad ys.length c news (by rw [hz2]; exact hnl) hcells hone hroom hfit
        rw [hz2] at hr
        refine fin _ _ b (run_append_op h (by rw [hs1, hx1, q1]; exact hr)) rfl (Kept.setRow w b _) q11 (other b hbd) (fun o v hv => ?_) (.inl rfl) (hobj _ _ (setRow_heap w b arr _ T' _ q4) rfl)
        have hg := hw.good b o v hv
        simp only [World.cell?, q4] at hg
        simp only [World.cell?, setRow_heap w b arr _ T' _ q4]
        have hg : arr.toList[o]? = some v := by simpa using hg
        have := take_splice arr.toList news (xs.length * sz) o (hkl o v hv) hxl
        rw [hg] at this
        simpa using this
    · -- it grows
      have hm : 0 < ys.length := by omega
      obtain ⟨ad, rfl, hcells⟩ := hn2.resolve_left (by omega)
      have hol : (arr.toList.take (xs.length * sz)).length = xs.length * sz := by rw [List.length_take, Nat.min_eq_left hxl]
      have holds : ∀ j v, (arr.toList.take (xs.length * sz))[j]? = some v → w.cell? ((⟨b, 0, none⟩ : Addr).add j) = some v := fun j v hv => by
        rw [addr_add]
        rw [List.getElem?_take] at hv
        split at hv
        · simp only [World.cell?, q4, Nat.zero_add]; simpa using hv
        · cases hv
      have hr := run_append_grow (P := G.P) w T o.type T' i z hT.und hi1 hz1 ⟨b, 0, none⟩ xs.length cap _ (by rw [hz2]; exact hol) holds ad ys.length c news (by rw [hz2]; exact hnl) hcells (by omega) (by omega) (growslice_fits (by omega) (by rw [hz3]; exact hb))
      obtain ⟨g1, g2⟩ := newcap cap (by omega)
      exact fin _ _ w.heap.size (run_append_op h (by rw [hs1, hx1, q1]; exact hr)) rfl (kalloc _) (.inl hw.size) fresh (fgood _) (.inl rfl) (newobj _ _ q6 hol q7 q8 g1 g2)

/-- a slice that is not owned (nil, or full: its capacity is its length), appended to: a new one comes -/
theorem D.appendF {s x : Operand} {T E sz bytes d2 : Nat} {f : Bool} {xs ys : List (List AV)} (h : o.op = .call ⟨.builtin .append, #[s, x], #[T, T]⟩) (hs : (ev s = .nils ∧ xs = []) ∨ (ev s = .lst true xs ∧ 0 < ys.length)) (hx : Seal σ (ev x) (.lst f ys)) (hT : AppS G.P T E sz bytes)
    (hxs : ∀ e ∈ xs, e.length = sz) (hys : ∀ e ∈ ys, e.length = sz) (h1 : ys.flatten.all AV.one = true) (hb : (xs.length + ys.length) * bytes ≤ 140737488355328) (h63 : xs.length + ys.length ≤ maxLen) (hi : G.ids.contains d2 = false)
    (hc : σ.clean [d2].contains = true) :
    Does G o ev σ [d2] [d2] (fun r σ' => r = .own d2 ∧ σ' = (d2, .slice E sz (xs ++ ys) 0 false) :: σ) := by
  intro cx I β w ρ hw hop
  have hs1 := hop s (by simp [h, Op.operands, Call.operands])
  have hx1 := hx.rep hw _ (hop x (by simp [h, Op.operands, Call.operands]))
  simp only [Rep, RepC] at hx1
  obtain ⟨a, c, hx1, hx2, hx3, _, hx4⟩ := hx1
  obtain ⟨i, z, hi1, hz1, hz2, hz3, hz4⟩ := hT.info
  have hnews : ∃ news : List Value, RepCs I ys.flatten news ∧ (ys.length = 0 ∨ ∃ ad : Addr, a = some ad ∧ ∀ j u, news[j]? = some u → w.cell? (ad.add j) = some u) := by
    rcases hx4 with rfl | ⟨b, o, rfl, hr⟩
    · exact ⟨[], rfl, .inl rfl⟩
    · obtain ⟨vs, q1, q2⟩ := RepRows_vals hw.good ys o hr
      exact ⟨vs, q1, .inr ⟨_, rfl, fun j u hu => by rw [addr_add]; exact q2 j u hu⟩⟩
  obtain ⟨news, hn1, hn2⟩ := hnews
  have hnl : news.length = ys.length * sz := by rw [RepCs_length _ _ hn1]; exact flatten_len ys hys
  have hsm : xs.length + ys.length ≤ 9223372036854775807 := by simp only [maxLen] at h63; omega
  have hw2 := hw.virt (mat := [d2]) (σ2 := (d2, .slice E sz (xs ++ ys) 0 false) :: σ) (env := []) ⟨fun x hx => by rw [Sto.get_cons, if_neg (fun e => hx (by simp [e]))], fun x hx => by simp at hx; subst hx; simpa using hi, rfl, hc⟩
  have hset : ∀ x, x ≠ d2 → setH β [d2] x = β x := fun x hx => by simp [setH, hx]
  have fresh : ∀ x, (σ.get x).isSome → blk (β x) ≠ some w.heap.size := fun x hx e => by
    obtain ⟨ob, hx⟩ := Option.isSome_iff_exists.1 hx
    exact absurd (hw.obj_lt hx e) (by omega)
  have fgood : ∀ (w' : World) o v, I w.heap.size o = some v → w'.cell? ⟨w.heap.size, o, none⟩ = some v := fun w' o v hv => by rw [hw.imm_none (Nat.le_refl _)] at hv; cases hv
  have fin : ∀ (v' : Value) (w' : World), (execOp ρ o).run G.P w = .ok (.value v') w' → isSl v' = true → Kept w w' w.heap.size → (blk v' = some w.heap.size ∨ blk v' = none) → ObjRep cx I (updH β d2 v') w' d2 (.slice E sz (xs ++ ys) 0 false) →
      UponV G.P (fun v w' => ∃ (av : AV) (σ' : Sto) (I' : Imm) (β' : Nat → Value), (av = .own d2 ∧ σ' = (d2, AObj.slice E sz (xs ++ ys) 0 false) :: σ) ∧ Rep I' β' av v ∧ RelW G cx I' β' σ' w' ∧ ImmLe I I' ∧ (∀ x, x ∉ [d2] → β' x = β x) ∧ (∀ x, x ∉ [d2] → σ'.get x = σ.get x)) ((execOp ρ o).run G.P w) := by
    intro v' w' hrun hsl hk hbd hob
    rw [hrun]
    refine ⟨.own d2, _, I, updH β d2 v', ⟨rfl, rfl⟩, by simp only [Rep, updH_same, hsl, and_self], ?_, ImmLe.refl I, fun x hx => updH_ne β v' (by simpa using hx), fun x hx => ?_⟩
    · refine hw2.turn (d := d2) hk (.inl hw.size) (fun _ _ => rfl) (fun x hx hsm e => ?_) (ImmLe.refl I) (fun _ _ _ => rfl) (fgood w') (fun x hx => by rw [updH_ne β v' hx, hset x hx]) (.inl (by simpa using hi)) (fun x => ?_) (by rw [updH_same]; exact hbd) (fun ob hob' => ?_)
      · rw [Sto.get_cons, if_neg (Ne.symm hx)] at hsm
        rw [hset x hx] at e
        exact fresh x hsm e
      · by_cases hx : x = d2
        · left; simp [setH, hx]
        · right; rw [updH_ne β v' hx, hset x hx]
      · rw [Sto.get_cons, if_pos rfl] at hob'
        injection hob' with hob'
        subst hob'
        exact hob
    · have hx : x ≠ d2 := by simpa using hx
      rw [Sto.get_cons, if_neg (Ne.symm hx)]
  have newcap : ∀ old, old < xs.length + ys.length → xs.length + ys.length ≤ grownCap w (xs.length + ys.length) old E ∧ grownCap w (xs.length + ys.length) old E ≤ maxLen := fun old _ => ⟨grownCap_ge _ _ _ _, grownCap_le_maxLen _ _ _ _ h63⟩
  have newobj : ∀ (olds : List Value) (cap : Nat), RepCs I xs.flatten olds → olds.length = xs.length * sz → xs.length + ys.length ≤ cap → cap ≤ maxLen →
      ObjRep cx I (updH β d2 (.slice (some ⟨w.heap.size, 0, none⟩) (xs.length + ys.length) cap)) (w.drew.alloc (.cells (olds.toArray ++ news.toArray ++ Builtin.zeroCells z.cells (cap - (xs.length + ys.length))) E)) d2 (.slice E sz (xs ++ ys) 0 false) := by
    intro olds cap ho1 ho2 hc1 hc2
    simp only [ObjRep, updH_same]
    have hlen : (olds ++ news).length = (xs ++ ys).length * sz := by rw [List.length_append, List.length_append, ho2, hnl, Nat.add_mul]
    refine .inr (.inr ⟨w.heap.size, cap, _, by rw [List.length_append], by rw [List.length_append]; exact hc1, hc2, heap_alloc_new w.drew _, ?_, ?_, ?_, by omega, by simp, fun o _ => hw.imm_none (Nat.le_refl _) o, .inl hw.size⟩)
    · simp only [Array.size_append, List.size_toArray, size_zeroCells, hz4, ho2, hnl, ← Nat.add_mul]
      congr 1
      omega
    · have : (olds.toArray ++ news.toArray ++ Builtin.zeroCells z.cells (cap - (xs.length + ys.length))).toList.take ((xs ++ ys).length * sz) = olds ++ news := by
        simp only [Array.toList_append, List.append_assoc]
        rw [← List.append_assoc, ← hlen]
        exact List.take_left
      rw [this, List.flatten_append]
      exact (RepCs_append _ _ _).2 ⟨_, _, rfl, ho1, hn1⟩
    · intro e he
      rcases List.mem_append.1 he with he | he
      · exact hxs e he
      · exact hys e he
  have kalloc : ∀ ob, Kept w (w.drew.alloc ob) w.heap.size := fun ob => (Kept.alloc w.drew ob).drew
  rcases hs with ⟨hs, rfl⟩ | ⟨hs, hm⟩
  · rw [hs] at hs1
    simp only [Rep, RepC] at hs1
    rcases Nat.eq_zero_or_pos ys.length with hm | hm
    · have hy : ys = [] := List.eq_nil_of_length_eq_zero hm
      subst hy
      refine fin (.slice none 0 0) w (run_append_op h ?_) rfl ⟨fun _ _ _ => rfl, Nat.le_refl _, rfl, rfl, rfl⟩ (.inr rfl) ?_
      · rw [hs1, hx1]
        cases a <;> simp [Builtin.append_, run_underlying hT.und, Go.sizeOf, typeInfo, hi1, Builtin.lenOf, Builtin.firstCells, loadCells, loadCellsFrom]
      · simp only [ObjRep, updH_same]; exact .inr (.inl ⟨trivial, rfl, trivial⟩)
    · obtain ⟨ad, rfl, hcells⟩ := hn2.resolve_left (by omega)
      have hr := run_append_nil (P := G.P) w T o.type E i z hT.und hi1 hz1 ad ys.length c news (by rw [hz2]; exact hnl) hcells hm (by simp at hsm; omega) (by simp at hb; rw [hz3]; omega)
      obtain ⟨g1, g2⟩ := newcap 0 (by simp; exact hm)
      simp only [List.length_nil, Nat.zero_add] at g1 g2
      refine fin _ _ (run_append_op h (by rw [hs1, hx1]; exact hr)) rfl (kalloc _) (.inl rfl) ?_
      have := newobj [] (grownCap w ys.length 0 E) rfl (by simp) (by simpa using g1) g2
      simpa using this
  · rw [hs] at hs1
    simp only [Rep, RepC] at hs1
    obtain ⟨a0, c0, hs1, _, _, hcap, hrow⟩ := hs1
    have hcap := hcap trivial
    subst hcap
    obtain ⟨ad, rfl, hcells⟩ := hn2.resolve_left (by omega)
    rcases hrow with rfl | ⟨b, p, rfl, hrow⟩
    · -- no old cells, wherever it points
      obtain ⟨g1, g2⟩ := newcap 0 (by simp; exact hm)
      simp only [List.length_nil, Nat.zero_add] at g1 g2
      cases a0 with
      | none =>
        have hr := run_append_nil (P := G.P) w T o.type E i z hT.und hi1 hz1 ad ys.length c news (by rw [hz2]; exact hnl) hcells hm (by simp at hsm; omega) (by simp at hb; rw [hz3]; omega)
        refine fin _ _ (run_append_op h (by rw [hs1, hx1]; exact hr)) rfl (kalloc _) (.inl rfl) ?_
        have := newobj [] (grownCap w ys.length 0 E) rfl (by simp) (by simpa using g1) g2
        simpa using this
      | some a1 =>
        have hr := run_append_grow (P := G.P) w T o.type E i z hT.und hi1 hz1 a1 0 0 [] (by simp) (by simp) ad ys.length c news (by rw [hz2]; exact hnl) hcells (by omega) (by simp at hsm; omega) (growslice_fits (by omega) (by rw [hz3]; simpa using hb))
        simp only [Nat.zero_add] at hr
        refine fin _ _ (run_append_op h (by rw [hs1, hx1]; exact hr)) rfl (kalloc _) (.inl rfl) ?_
        have := newobj [] (grownCap w ys.length 0 E) rfl (by simp) (by simpa using g1) g2
        simpa using this
    · obtain ⟨olds, o1, o2⟩ := RepRows_vals hw.good xs p hrow
      have hol : olds.length = xs.length * sz := by rw [RepCs_length _ _ o1]; exact flatten_len xs hxs
      have hr := run_append_grow (P := G.P) w T o.type E i z hT.und hi1 hz1 ⟨b, p, none⟩ xs.length xs.length olds (by rw [hz2]; exact hol) (fun j v hv => by rw [addr_add]; exact o2 j v hv) ad ys.length c news (by rw [hz2]; exact hnl) hcells (by omega) (by omega) (growslice_fits (by omega) (by rw [hz3]; exact hb))
      obtain ⟨g1, g2⟩ := newcap xs.length (by omega)
      exact fin _ _ (run_append_op h (by rw [hs1, hx1]; exact hr)) rfl (kalloc _) (.inl rfl) (newobj _ _ o1 hol g1 g2)

/-! ### function values, parts of structs, parts of slices -/
theorem Y.makeFunc {f : FuncId} {cap : Array Operand} (h : o.op = .makeFunc (.func f) #[] cap) : Yields G o ev σ [] [] (.fn f (cap.toList.map ev)) :=
  .pure fun σ' cx I β w ρ hR hw hop => by
    refine ⟨.func (.func f) #[] (cap.map ρ), by simp [execOp, h, Instr.makeFunc], ?_⟩
    simp only [Rep]
    exact ⟨_, rfl, by simpa using RepL_map ev ρ cap.toList fun x hx => hop x (by simp only [h, Op.operands]; simpa using hx)⟩

/-- a part of a struct value -/
structure PartS (P : Program) (T f off n : Nat) (ag : Bool) : Prop where
  run : ∀ (cs : Array Value) w, off + n ≤ cs.size → (Instr.field T (.agg cs) f).run P w = .ok (if ag then .agg (cs.extract off (off + n)) else cs.getD off undef) w
  pos : ag = false → n = 1
theorem Y.field {T f off n : Nat} {ag : Bool} {x : Operand} {cs : List AV} (h : o.op = .field T x f) (hx : ev x = .agg cs) (hT : PartS G.P T f off n ag) (hn : Nat.ble (off + n) cs.length = true) : Yields G o ev σ [] [] (ldAV ag n (cs.drop off)) :=
  .pure fun σ' cx I β w ρ hR hw hop => by
    have h1 := hop x (by simp [h, Op.operands]); rw [hx] at h1
    simp only [Rep] at h1
    obtain ⟨vs, h1, h2⟩ := h1
    have hl := RepL_length _ _ h2
    simp only [Array.length_toList] at hl
    have hn : off + n ≤ cs.length := by simpa using hn
    have hd := RepL_drop off _ _ h2
    refine ⟨_, by simp only [execOp, h, h1, Sem.run_bind, hT.run vs w (by omega), Result.andThen_ok, Sem.run_pure]; rfl, ?_⟩
    cases ag with
    | true =>
      simp only [ldAV, cond_true, if_true, Rep]
      refine ⟨_, rfl, ?_⟩
      have := RepL_take n _ _ hd
      simpa [Array.toList_extract, List.extract_eq_take_drop] using this
    | false =>
      simp only [ldAV, cond_false, Bool.false_eq_true, if_false]
      have hp := hT.pos rfl
      have hlt : off < vs.size := by omega
      have e : vs.toList.drop off = vs[off] :: vs.toList.drop (off + 1) := by rw [List.drop_eq_getElem_cons (by simpa using hlt)]; simp
      rw [e] at hd
      rw [Array.getD_eq_getD_getElem?, Array.getElem?_eq_getElem hlt]
      generalize cs.drop off = ds at hd
      cases ds with
      | nil => simp [Rep]
      | cons y r =>
        simp only [RepL] at hd
        obtain ⟨u, us, e, hd, _⟩ := hd
        cases e
        exact hd

theorem RepRows_part {I : Imm} {b sz : Nat} : ∀ (l : Nat) (xs : List (List AV)) (o : Nat), (∀ e ∈ xs, e.length = sz) → RepRows I b xs o → RepRows I b (xs.drop l) (o + l * sz)
  | 0, xs, o, _, h => by simpa using h
  | l + 1, [], o, _, _ => by simp [RepRows]
  | l + 1, e :: r, o, hl, h => by
    simp only [RepRows] at h
    have he := hl e (by simp)
    have := RepRows_part l r (o + e.length) (fun x hx => hl x (by simp [hx])) h.2
    rw [he] at this
    rw [Nat.add_mul, Nat.one_mul]
    simpa [Nat.add_assoc, Nat.add_comm sz] using this
theorem RepRows_take {I : Imm} {b : Nat} : ∀ (h : Nat) (xs : List (List AV)) (o : Nat), RepRows I b xs o → RepRows I b (xs.take h) o
  | 0, _, _, _ => by simp [RepRows]
  | h + 1, [], _, _ => by simp [RepRows]
  | h + 1, e :: r, o, hh => by
    simp only [RepRows, List.take_succ_cons] at hh ⊢
    exact ⟨hh.1, RepRows_take h r _ hh.2⟩

theorem run_sliceBound {P : Program} {k : IntKind} {n : Int} {y : Nat} {code : BoundsCode} {w : World} (h : 0 ≤ n ∧ n ≤ (y : Int)) : (Instr.sliceBound (.int k n) y code).run P w = .ok n.toNat w := by
  unfold Instr.sliceBound
  simp only [asIntOf, Sem.run_bind, Sem.run_pure, Result.andThen_ok]
  rw [if_pos h]
  rfl
/-- s[lo:hi] of a slice that reads; lo, hi may lack -/
def loOf (ev : Operand → AV) : Option Operand → Int | none => 0 | some x => match ev x with | .int _ n => n | _ => -1
def hiOf (ev : Operand → AV) (len : Nat) : Option Operand → Int | none => len | some x => match ev x with | .int _ n => n | _ => -1
theorem intOp {I : Imm} {β : Nat → Value} {ρ : Operand → Value} {x : Operand} (h : ∃ k n, ev x = .int k n) (hx : Rep I β (ev x) (ρ x)) : ∃ k n, ev x = .int k n ∧ ρ x = .int k n := by
  obtain ⟨k, n, h⟩ := h
  rw [h] at hx
  exact ⟨k, n, h, rep_int hx⟩
def isIntO (ev : Operand → AV) : Option Operand → Prop | none => True | some x => ∃ k n, ev x = .int k n
theorem Y.slice {T E sz : Nat} {x : Operand} {f : Bool} {lo hi : Option Operand} {xs : List (List AV)} (h : o.op = .slice T x lo hi none) (hx : Seal σ (ev x) (.lst f xs)) (hT : SlS G.P T E sz) (hlen : ∀ e ∈ xs, e.length = sz) (ilo : isIntO ev lo) (ihi : isIntO ev hi)
    (hlo : 0 ≤ loOf ev lo ∧ loOf ev lo ≤ hiOf ev xs.length hi ∧ hiOf ev xs.length hi ≤ xs.length) (R : List Nat) (hR : ∀ σ' : Sto, (∀ d ∈ R, σ'.get d = σ.get d) → Seal σ' (ev x) (.lst f xs)) :
    Yields G o ev σ [] R (.lst false ((xs.take (hiOf ev xs.length hi).toNat).drop (loOf ev lo).toNat)) :=
  .pure fun σ' cx I β w ρ hRR hw hop => by
    have h1 := (hR σ' hRR).rep hw _ (hop x (by simp [h, Op.operands]))
    simp only [Rep, RepC] at h1
    obtain ⟨a, c, h1, h2, h3, _, h4⟩ := h1
    generalize hl : loOf ev lo = l at hlo ⊢
    generalize hh : hiOf ev xs.length hi = u at hlo ⊢
    have e1 : (Instr.sliceBounds true xs.length c (lo.map ρ) (hi.map ρ) none).run G.P w = .ok (l.toNat, u.toNat, c) w := by
      have hu : 0 ≤ u ∧ u ≤ (c : Int) := by omega
      have hll : 0 ≤ l ∧ l ≤ (u.toNat : Int) := by omega
      cases hi with
      | none =>
        simp only [hiOf] at hh
        subst hh
        cases lo with
        | none =>
          simp only [loOf] at hl
          subst hl
          simp [Instr.sliceBounds]
        | some y =>
          obtain ⟨k, n, q1, q2⟩ := intOp ilo (hop y (by simp [h, Op.operands]))
          simp only [loOf, q1] at hl
          subst hl
          have := run_sliceBound (P := G.P) (k := k) (code := .sliceB) (w := w) hll
          simp only [Int.toNat_natCast] at this
          simp [Instr.sliceBounds, q2, this]
      | some z =>
        obtain ⟨kz, nz, z1, z2⟩ := intOp ihi (hop z (by simp [h, Op.operands]))
        simp only [hiOf, z1] at hh
        subst hh
        have r1 := run_sliceBound (P := G.P) (k := kz) (code := .sliceAcap) (w := w) hu
        cases lo with
        | none =>
          simp only [loOf] at hl
          subst hl
          simp [Instr.sliceBounds, z2, r1]
        | some y =>
          obtain ⟨k, n, q1, q2⟩ := intOp ilo (hop y (by simp [h, Op.operands]))
          simp only [loOf, q1] at hl
          subst hl
          have := run_sliceBound (P := G.P) (k := k) (code := .sliceB) (w := w) hll
          simp [Instr.sliceBounds, z2, r1, q2, this]
    have hrun : (execOp ρ o).run G.P w = .ok (.value (.slice (if c = l.toNat then a else a.map (·.add (l.toNat * sz))) (u.toNat - l.toNat) (c - l.toNat))) w := by
      have e2 : ∀ w, (underlying T).run G.P w = .ok (.slice E) w := fun w => run_underlying hT.und w
      simp only [execOp, h, Instr.sliceAt, Instr.slice, h1, Sem.run_bind, e2, Result.andThen_ok, e1, hT.size, Sem.run_pure, Option.map_none]
    refine ⟨_, hrun, ?_⟩
    simp only [Rep, RepC]
    have hlx : ((xs.take u.toNat).drop l.toNat).length = u.toNat - l.toNat := by rw [List.length_drop, List.length_take]; omega
    refine ⟨_, c - l.toNat, by rw [hlx], by rw [hlx]; omega, by omega, by simp, ?_⟩
    by_cases he : (xs.take u.toNat).drop l.toNat = []
    · exact .inl he
    · right
      have hlt : l.toNat < u.toNat := by
        rcases Nat.lt_or_ge l.toNat u.toNat with q | q
        · exact q
        · exact absurd (List.eq_nil_of_length_eq_zero (by rw [hlx]; omega)) he
      rcases h4 with rfl | ⟨b, p, rfl, h4⟩
      · simp at he
      · refine ⟨b, p + l.toNat * sz, ?_, RepRows_part _ _ _ (fun e hh => hlen e (List.mem_of_mem_take hh)) (RepRows_take _ _ _ h4)⟩
        rw [if_neg (by omega)]
        simp [addr_add]
end ops
end Go.Proofs.Ytggbjbcgfelgiaa
