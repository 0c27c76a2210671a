/- What is reckoned of an operation that leaves the store is what it yields. No condition but those that stand in each. -/
import Derived.Test.YtggbjbcgfelgiaaB2
namespace Go.Proofs.Ytggbjbcgfelgiaa
set_option linter.all false
open Go
section
variable {P : Program} {N : Nat} {ids : List Nat} {tb : Tb} {o : Oper} {env : Env} {σ : Sto}
theorem Y.negW {G : Gl} {ev : Operand → AV} {T : TypeId} {x : Operand} {k : IntKind} {n : Int} (h : o.op = .unOp .neg T x) (hx : ev x = .int k n) : Yields G o ev σ [] [] (.int k (k.wrap (0 - n))) :=
  .pure fun _ _ I β w ρ _ _ hop => by
    have h1 := hop x (by simp [h, Op.operands]); rw [hx] at h1; have h1 := rep_int h1
    exact ⟨.int k (k.wrap (0 - n)), by simp only [execOp, h, h1, Op.unary, Op.intArith]; rfl, by simp [Rep, RepC]⟩
theorem Y.quoW {G : Gl} {ev : Operand → AV} {T T' : TypeId} {x y : Operand} {k : IntKind} {m n : Int} (h : o.op = .binOp .quo T x y T') (hx : ev x = .int k m) (hy : ev y = .int k n) (hn : n ≠ 0) : Yields G o ev σ [] [] (.int k (k.wrap (m.tdiv n))) :=
  Y.int h hx hy (by decide) (fun w => by simp [Op.intDiv, hn]; rfl) (fun _ _ => by simp only [Rep, RepC])
theorem lst_id (xs : List (List AV)) : xs.map id = xs := List.map_id xs

theorem Y.buildSliceO {G : Gl} {o : Oper} {ev : Operand → AV} {σ : Sto} {T E sz len d : Nat} {parts : Array (Nat × Operand)} {zs : List Value} {xs : List (List AV)} (h : o.op = .buildSlice T len parts) (hT : SliS G.P T E sz zs) (hl : parts.size = len) (hs : len * sz ≤ 65536 ∧ len ≤ 65536)
    (hf : fillAll sz 0 (parts.toList.map fun p => (p.1, ev p.2)) = some xs) (hc : closedL xs.flatten = true) (hi : G.ids.contains d = false) : Yields G o ev ((d, .slice E sz xs 0 false) :: σ) [d] [d] (.own d) := by
  intro σ' cx I β w ρ hR hw hm hop
  have h1 : ∀ p ∈ parts.toList, Rep I β (ev p.2) (ρ p.2) := fun p hp => hop p.2 (by simp only [h, Op.operands]; simpa using ⟨p.1, by simpa using hp⟩)
  obtain ⟨z, hz1, hz2⟩ := hT.zero w
  -- the cells before they are filled
  let L : Array Value := (Array.range (len * sz)).map ((if len * sz = 0 then #[] else z.cells)[· % (if len * sz = 0 then #[] else z.cells : Array Value).size]!)
  have hLs : L.size = len * sz := by simp [L]
  obtain ⟨r, us, r1, r2, r3, r4, r5, r6⟩ := fillAll_rep (I := I) (β := β) sz (parts.toList.map fun p => (p.1, ev p.2)) (parts.toList.map fun p => (p.1, ρ p.2)) 0 L xs
    ⟨by simp, fun j p q hj hq => by
      simp only [List.getElem?_map] at hj hq
      cases hx : parts.toList[j]? with
      | none => rw [hx] at hj; cases hj
      | some y =>
        rw [hx] at hj hq
        simp only [Option.map_some, Option.some.injEq] at hj hq
        subst hj hq
        exact ⟨rfl, h1 y (List.mem_of_getElem? hx)⟩⟩ hf (by simp [hLs, hl])
  have hru : r.toList = us := by
    rw [r3]
    have e0 : L.toList.drop ((0 + (parts.toList.map fun p => (p.1, ev p.2)).length) * sz) = [] := List.drop_of_length_le (by simp [hLs, hl])
    rw [e0]; simp
  have hxl : xs.length = len := by rw [r6]; simp [hl]
  have hrun : (execOp ρ o).run G.P w = .ok (.value (.slice (some ⟨w.heap.size, 0, none⟩) len len)) (w.alloc (.cells r E)) := by
    have hlim : ¬ (len * sz > 2 ^ 24) := by have : (2 : Nat) ^ 24 = 16777216 := by decide
                                            omega
    have hfill : Instr.fill (fun i => some (i * sz, sz)) L (parts.map fun (i, x) => (i, ρ x)).toList = some r := by simpa using r1
    simp only [execOp, h, Instr.buildSlice, Sem.run_bind, run_underlying hT.und, hT.size, Result.andThen_ok, hlim, if_false]
    by_cases h0 : len * sz = 0
    · have hL0 : L = (Array.range (len * sz)).map ((#[] : Array Value)[· % (#[] : Array Value).size]!) := by simp only [L, h0, if_true]
      rw [hL0] at hfill
      simp only [h0, if_true, Sem.run_bind, Sem.run_pure, Result.andThen_ok] at hfill ⊢
      simp only [hfill]
      simp [newRow]
    · have hL0 : L = (Array.range (len * sz)).map (z.cells[· % z.cells.size]!) := by simp only [L, h0, if_false]
      rw [hL0] at hfill
      simp only [h0, if_false, Sem.run_bind, hz1, Sem.run_pure, Result.andThen_ok]
      simp only [hfill]
      simp [newRow]
  rw [hrun]
  have hβ := hm d (by simp)
  have hrows := r5
  have hfl := flatten_len xs hrows
  have hus : us.length = xs.length * sz := by rw [RepL_length _ _ r4, hfl]
  refine ⟨I, updH β d (.slice (some ⟨w.heap.size, 0, none⟩) len len), by simp only [Rep]; exact ⟨(updH_same _ _ _).symm, rfl⟩, ?_, ImmLe.refl I, fun x hx => updH_ne β _ (fun e => hx (by simp [e]))⟩
  refine hw.real (by simpa using hi) hβ rfl fun ob hob => ?_
  rw [hR d (by simp), Sto.get_cons, if_pos rfl] at hob
  injection hob with hob
  subst hob
  simp only [ObjRep, updH_same]
  refine .inr (.inr ⟨w.heap.size, len, r, by rw [hxl], by omega, by simp only [maxLen]; omega, heap_alloc_new w _, ?_, ?_, hrows, by omega, (fun h => by cases h), fun o _ => hw.imm_none (Nat.le_refl _) o, .inl hw.size⟩)
  · rw [← Array.length_toList, hru, hus, hxl]
  · rw [hru, List.take_of_length_le (by rw [hus]; exact Nat.le_refl _)]
    exact RepL.closed _ _ hc r4
theorem Y.callC {G : Gl} {ev : Operand → AV} {fo : Operand} {args : Array Operand} {k : Array TypeId} {f : FuncId} {cap avs : List AV} {σs : Sto} {r : AV} (h : o.op = .call ⟨.value fo, args, k⟩) (hf : ev fo = .cfn f cap)
    (hcall : ∀ (args : Array Value) (w : World), (callFunc f args).run G.P w = .ok (.enter f args) w) (hs : ∀ p ∈ σs, σ.get p.1 = some p.2) (ha : SealL σs (args.toList.map ev) avs)
    (hro : RO G.P f [] (avs ++ cap) r) (hr : r.closed = true) : Yields G o ev σ [] σs.ids r := by
  intro σ' cx I β w ρ hR hw _ hop
  have hf1 := hop fo (by simp [h, Op.operands, Call.operands])
  rw [hf] at hf1
  simp only [Rep, RepC] at hf1
  obtain ⟨vs, hf1, hcap⟩ := hf1
  rw [run_call h hf1 hcall]
  have hsub : ∀ d o, σs.get d = some o → σ'.get d = some o := fun d o hd => by
    obtain ⟨p, p1, p2, p3⟩ := sto_mem σs d o hd
    rw [hR d (by rw [← p2]; exact List.mem_map.2 ⟨p, p1, rfl⟩), ← p2, ← p3]; exact hs p p1
  have hws := hw.sub hsub
  have hargs := RepL_map ev ρ args.toList fun x hx => hop x (by simp only [h, Op.operands, Call.operands]; simp; right; simpa using hx)
  have hargs2 := RepL_append _ _ _ _ (ha.rep hws _ hargs) (RepCs.rep β _ _ hcap)
  have hin := hw.into (P := G.P) (σc := []) (by simp)
  refine Calls.mono (hro _ w I β _ hin hargs2) ?_
  rintro e w' ⟨v, he, r', σ2, I', β', ⟨hr1, hr2⟩, hrep, hw'⟩
  subst hr1 hr2
  obtain ⟨h1, h2, h3⟩ := hw.after (σc := []) (by simp) hw' [] (by simp) (Sto.clean_none _) rfl
  refine ⟨v, he, I', β, ?_, ?_, h2, fun _ _ => rfl⟩
  · exact RepC.rep β _ _ (Rep.closed r' v hr hrep)
  · refine ({ h1 with } : RelW G cx I' β ([] ++ σ'.minus (Sto.ids [])) w').sub fun d o hd => ?_
    rw [Sto.append_get, Sto.minus_get]
    simpa [Sto.get, Sto.ids] using hd

theorem Y.minI {G : Gl} {ev : Operand → AV} {x y : Operand} {k k' : IntKind} {m n : Int} {ts : Array TypeId} (h : o.op = .call ⟨.builtin .min, #[x, y], ts⟩) (hx : ev x = .int k m) (hy : ev y = .int k' n) : Yields G o ev σ [] [] (.int k (if n < m then n else m)) :=
  .pure fun _ _ I β w ρ _ _ hopd => by
    have h1 := hopd x (by simp [h, Op.operands, Call.operands]); rw [hx] at h1; have h1 := rep_int h1
    have h2 := hopd y (by simp [h, Op.operands, Call.operands]); rw [hy] at h2; have h2 := rep_int h2
    exact ⟨.int k (if n < m then n else m), by simp [execOp, h, resolve, invoke, builtin, Builtin.min_, Builtin.min2, h1, h2], by simp [Rep, RepC]⟩
theorem Y.maxI {G : Gl} {ev : Operand → AV} {x y : Operand} {k k' : IntKind} {m n : Int} {ts : Array TypeId} (h : o.op = .call ⟨.builtin .max, #[x, y], ts⟩) (hx : ev x = .int k m) (hy : ev y = .int k' n) : Yields G o ev σ [] [] (.int k (if n > m then n else m)) :=
  .pure fun _ _ I β w ρ _ _ hopd => by
    have h1 := hopd x (by simp [h, Op.operands, Call.operands]); rw [hx] at h1; have h1 := rep_int h1
    have h2 := hopd y (by simp [h, Op.operands, Call.operands]); rw [hy] at h2; have h2 := rep_int h2
    exact ⟨.int k (if n > m then n else m), by simp [execOp, h, resolve, invoke, builtin, Builtin.max_, Builtin.max2, h1, h2], by simp [Rep, RepC]⟩
theorem binI_ok {op : BinOp} {T T' : TypeId} {x y : Operand} {k : IntKind} {m n : Int} {a : AV} (h : o.op = .binOp op T x y T') (hx : env.ev x = .int k m) (hy : env.ev y = .int k n) (hb : binI op k m n = some a) : Yields ⟨P, N, ids⟩ o env.ev σ [] [] a := by
  cases op <;> simp only [binI, Option.some.injEq] at hb <;> first | cases hb | skip
  all_goals (try subst hb)
  · exact Y.addW h hx hy
  · exact Y.subW h hx hy
  · exact Y.mulW h hx hy
  · exact Y.and h hx hy
  · exact Y.or h hx hy
  · exact Y.xor h hx hy
  · exact Y.andNot h hx hy
  · exact Y.eql h hx hy
  · exact Y.neq h hx hy
  · exact Y.lss h hx hy
  · exact Y.leq h hx hy
  · exact Y.gtr h hx hy
  · exact Y.geq h hx hy

theorem auY_ok (W : Wld P tb) {R : List Nat} {av : AV} (h : auY tb env σ o.op = some (R, av)) : Yields ⟨P, N, ids⟩ o env.ev σ [] R av := by
  cases ho : o.op <;> rw [ho] at h <;> simp only [auY] at h
  case move x =>
    cases hx : env.evo x with
    | none => rw [hx] at h; cases h
    | some a => rw [hx] at h; cases h; rw [← Env.evo_ev hx]; exact Y.move ho
  case assign x =>
    cases hx : env.evo x with
    | none => rw [hx] at h; cases h
    | some a => rw [hx] at h; cases h; rw [← Env.evo_ev hx]; exact Y.assign ho
  case pick c x y =>
    split at h
    · rename_i hc
      cases hx : env.evo x with
      | none => rw [hx] at h; cases h
      | some a => rw [hx] at h; cases h; rw [← Env.evo_ev hx]; exact Y.pickT ho (Env.evo_ev hc) rfl
    · rename_i hc
      cases hx : env.evo y with
      | none => rw [hx] at h; cases h
      | some a => rw [hx] at h; cases h; rw [← Env.evo_ev hx]; exact Y.pickF ho (Env.evo_ev hc) rfl
    · cases h
  case fieldAddr T x f =>
    split at h
    · rename_i sz ag zs0 zs pl ags hT
      split at h
      · cases h
      · rename_i off n hf
        have hk := (TbAll.get W.tys hT).kd
        simp only [KdOk] at hk
        split at h
        · rename_i d p hx; cases h; exact Y.fieldP ho (Env.evo_ev hx) (hk.2.1 _ _ _ hf)
        · rename_i cs hx
          cases hs : spine (cs.drop off) with
          | none => rw [hs] at h; cases h
          | some l => rw [hs] at h; cases h; rw [← spine_eq hs]; exact Y.fieldL ho (Env.evo_ev hx) (hk.2.1 _ _ _ hf)
        · cases h
    · cases h
  case field T x f =>
    split at h
    · rename_i sz ag zs0 zs pl ags hT
      split at h
      · cases h
      · rename_i off n hf
        split at h
        · cases h
        · rename_i ag2 hag
          have hk := (TbAll.get W.tys hT).kd
          simp only [KdOk] at hk
          split at h
          · rename_i cs hx
            cases hb : Nat.ble (off + n) cs.length with
            | false => rw [hb] at h; cases h
            | true =>
              rw [hb] at h
              simp only [cond_true] at h
              cases hs : ldO ag2 n (cs.drop off) with
              | none => rw [hs] at h; cases h
              | some a => rw [hs] at h; cases h; exact Z.field ho (Env.evo_ev hx) (hk.2.2 _ _ _ _ hf hag) hb hs
          · cases h
    · cases h
  case load T x =>
    split at h
    · cases h
    · rename_i i hT
      have hk := (TbAll.get W.tys hT).ty
      split at h
      · rename_i d p hx
        split at h
        · rename_i T' cs hd
          cases hb : ((i.ag || Nat.blt 0 i.sz) && Nat.ble (p + i.sz) cs.length) with
          | false => rw [hb] at h; cases h
          | true =>
            rw [hb] at h
            simp only [cond_true] at h
            simp only [Bool.and_eq_true] at hb
            cases hs : ldO i.ag i.sz (cs.drop p) with
            | none => rw [hs] at h; cases h
            | some a => rw [hs] at h; cases h; exact Z.loadP ho (Env.evo_ev hx) hk hd hb.1 hb.2 hs
        · cases h
      · rename_i cs hx
        cases hb : ((i.ag || Nat.blt 0 i.sz) && Nat.ble i.sz cs.length) with
        | false => rw [hb] at h; cases h
        | true =>
          rw [hb] at h
          simp only [cond_true] at h
          simp only [Bool.and_eq_true] at hb
          cases hs : ldO i.ag i.sz cs with
          | none => rw [hs] at h; cases h
          | some a => rw [hs] at h; cases h; exact Z.loadL ho (Env.evo_ev hx) hk hb.1 hb.2 hs
      · cases h
  case binOp op T x y T' =>
    split at h
    · rename_i k m hx
      split at h
      · rename_i k' n hy
        cases hkk : decide (k = k') with
        | false => rw [hkk] at h; cases h
        | true =>
          rw [hkk] at h
          simp only [cond_true] at h
          have := of_decide_eq_true hkk
          subst this
          cases hb : binI op k m n with
          | none => rw [hb] at h; cases h
          | some a => rw [hb] at h; cases h; exact binI_ok ho (Env.evo_ev hx) (Env.evo_ev hy) hb
      · cases h
    · rename_i a hx
      split at h
      · rename_i hT
        have hk := (TbAll.get W.tys hT).kd
        simp only [KdOk] at hk
        split at h
        · rename_i b hy
          split at h
          · cases h; exact Y.beql ho (Env.evo_ev hx) (Env.evo_ev hy) hk
          · cases h; exact Y.bneq ho (Env.evo_ev hx) (Env.evo_ev hy) hk
          · cases h
        · cases h
      · cases h
    · cases h
  case unOp op T x =>
    split at h
    · split at h
      · rename_i b hx; cases h; exact Y.not ho (Env.evo_ev hx)
      · cases h
    · split at h
      · rename_i k n hx; cases h; exact Y.negW ho (Env.evo_ev hx)
      · cases h
    · cases h
  case convert T T' x =>
    split at h
    · rename_i hT
      split at h
      · rename_i k' hT'
        split at h
        · rename_i k n hx; cases h
          have h1 := (TbAll.get W.tys hT).kd
          have h2 := (TbAll.get W.tys hT').kd
          simp only [KdOk] at h1 h2
          exact Y.convert ho (Env.evo_ev hx) ⟨_, h1⟩ h2
        · cases h
      · cases h
    · cases h
  case extract x j =>
    split at h
    · rename_i vs hx
      cases hj : vs[j]? with
      | none => rw [hj] at h; cases h
      | some a => rw [hj] at h; cases h; exact Y.extract ho (Env.evo_ev hx) hj
    · cases h
  case nilCheck x =>
    split at h
    · rename_i d p hx; cases h; exact Y.nilCheckP ho (Env.evo_ev hx)
    · rename_i cs hx; cases h; exact Y.nilCheckL ho (Env.evo_ev hx)
    · cases h
  case build T parts =>
    split at h
    · rename_i hT
      have hk := (TbAll.get W.tys hT).kd
      simp only [KdOk] at hk
      split at h
      · cases h
      · rename_i ps hp
        split at h
        · cases h
        · rename_i cs hf; cases h; exact Z.build ho hk.1 hp hf
    · cases h
  case buildSlice T len parts =>
    split at h
    · rename_i hT
      have hk := (TbAll.get W.tys hT).kd
      simp only [KdOk] at hk
      generalize hb : (Nat.beq parts.size len && _) = bb at h
      cases bb with
      | false => cases h
      | true =>
        simp only [cond_true] at h
        rw [Bool.and_eq_true] at hb
        split at h
        · cases h
        · rename_i ps hp
          split at h
          · cases h
          · rename_i xs hf
            cases hc : closedL xs.flatten with
            | false => rw [hc] at h; cases h
            | true => rw [hc] at h; cases h; exact Z.buildSlice ho hk.2.2 (by simpa using hb.1) hb.2 hp hf hc
    · cases h
  case makeFunc fn first cap =>
    split at h
    · rename_i f
      split at h
      · rename_i hf
        split at h
        · cases h
        · rename_i l hl; cases h
          have : first = #[] := by simpa using hf
          subst this
          exact Z.makeFunc ho hl
      · cases h
    · cases h
  case call c =>
    obtain ⟨cl, args, tys⟩ := c
    simp only [auLen] at h
    split at h
    · rename_i b
      split at h
      · split at h
        · rename_i x hx0
          have : args = #[x] := Array.toList_inj.1 (by simpa using hx0)
          subst this
          split at h
          · rename_i T hT0
            have : tys = #[T] := Array.toList_inj.1 (by simpa using hT0)
            subst this
            split at h
            · rename_i hT
              have hk := (TbAll.get W.tys hT).kd
              simp only [KdOk] at hk
              split at h
              · rename_i f xs hx; cases h; exact Y.lenL (rs := xs) (enc := id) ho rfl (by rw [lst_id]; exact Env.evo_ev hx) hk.1.und
              · rename_i hx; cases h; exact Y.lenN ho rfl (Env.evo_ev hx) hk.1.und
              · rename_i d hx
                split at h
                · rename_i hd; cases h; exact Y.lenO (enc := id) ho rfl (Env.evo_ev hx) (by rw [lst_id]; exact hd) hk.1.und
                · cases h
              · cases h
            · rename_i hT
              have hk := (TbAll.get W.tys hT).kd
              simp only [KdOk] at hk
              split at h
              · rename_i s hx; cases h; exact Y.lenS ho rfl (Env.evo_ev hx) hk
              · cases h
            · cases h
          · cases h
        · cases h
      · split at h
        · rename_i x0 y0 hx0
          have : args = #[x0, y0] := Array.toList_inj.1 (by simpa using hx0)
          subst this
          split at h
          · rename_i k m hx
            split at h
            · rename_i k' n hy; cases h; exact Y.minI ho (Env.evo_ev hx) (Env.evo_ev hy)
            · cases h
          · cases h
        · cases h
      · split at h
        · rename_i x0 y0 hx0
          have : args = #[x0, y0] := Array.toList_inj.1 (by simpa using hx0)
          subst this
          split at h
          · rename_i k m hx
            split at h
            · rename_i k' n hy; cases h; exact Y.maxI ho (Env.evo_ev hx) (Env.evo_ev hy)
            · cases h
          · cases h
        · cases h
      · cases h
    · cases h
  all_goals cases h
end
end Go.Proofs.Ytggbjbcgfelgiaa
