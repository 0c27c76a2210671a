/- Slices that are lent to a call that only reads; elements of an owned slice, read and stored. No condition. -/
import Derived.Test.YtggbjbcgfelgiaaA13
namespace Go.Proofs.Ytggbjbcgfelgiaa
set_option linter.all false
open Go

/-- nothing of what stood has turned -/
theorem RelW.stay {G : Gl} {cx : Cx} {I : Imm} {β : Nat → Value} {σ : Sto} {w w' : World} (h : RelW G cx I β σ w) (hk : ∀ b, b < w.heap.size → w'.heap[b]? = w.heap[b]?) (hs : w.heap.size ≤ w'.heap.size) (ht : w'.tape = w.tape) (ho : w'.os = w.os) (hu : w'.output = w.output) : RelW G cx I β σ w' := by
  have hK : Kept w w' w.heap.size := ⟨fun k _ hlt => hk k hlt, hs, ht, ho, hu⟩
  exact { good := fun b o v hv => by
            have h1 := h.good b o v hv
            have hlt : b < w.heap.size := World.block_lt_of_cell? w _ h1
            rw [World.cell?_of_block (w := w) (hk b hlt)]
            exact h1
          imono := h.imono, iext := h.iext
          frame := fun b hb hm => by rw [hk b (Nat.lt_of_lt_of_le hb h.size)]; exact h.frame b hb hm
          size := Nat.le_trans h.size hs, tape := ht.trans h.tape, os := ho.trans h.os, output := hu.trans h.output
          objs := fun d o hd => (h.objs d o hd).keep hK rfl (fun e => by have := h.obj_lt hd e; omega) (ImmLe.refl I) (fun _ _ _ => rfl) (HLe.refl β)
          sep := h.sep, keep := h.keep }

mutual
/-- no memory behind it -/
def AV.scal : AV → Bool
  | .int _ _ => true
  | .bool _ => true
  | .str _ => true
  | .undef => true
  | .tup cs => scalL cs
  | .agg cs => scalL cs
  | _ => false
def scalL : List AV → Bool
  | [] => true
  | x :: r => x.scal && scalL r
end
mutual
theorem Rep.scal {I I' : Imm} {β β' : Nat → Value} : ∀ (a : AV) (v : Value), a.scal = true → Rep I β a v → Rep I' β' a v
  | .int _ _, v, _, h => by simpa only [Rep, RepC] using h
  | .bool _, v, _, h => by simpa only [Rep, RepC] using h
  | .str _, v, _, h => by simpa only [Rep, RepC] using h
  | .undef, v, _, h => by simpa only [Rep, RepC] using h
  | .tup cs, v, hs, h => by
    simp only [Rep, AV.scal] at h hs ⊢
    obtain ⟨vs, h1, h2⟩ := h
    exact ⟨vs, h1, RepL.scal cs _ hs h2⟩
  | .agg cs, v, hs, h => by
    simp only [Rep, AV.scal] at h hs ⊢
    obtain ⟨vs, h1, h2⟩ := h
    exact ⟨vs, h1, RepL.scal cs _ hs h2⟩
  | .junk, _, hs, _ | .lst _ _, _, hs, _ | .lptr _, _, hs, _ | .fn _ _, _, hs, _ | .nils, _, hs, _ | .nilp, _, hs, _ | .own _, _, hs, _ | .ptr _ _, _, hs, _ | .mapv _, _, hs, _ | .cfn _ _, _, hs, _ | .sl0, _, hs, _ => by simp [AV.scal] at hs
theorem RepL.scal {I I' : Imm} {β β' : Nat → Value} : ∀ (a : List AV) (v : List Value), scalL a = true → RepL I β a v → RepL I' β' a v
  | [], v, _, h => h
  | x :: r, v, hs, h => by
    simp only [RepL, scalL, Bool.and_eq_true] at h hs ⊢
    obtain ⟨u, us, h1, h2, h3⟩ := h
    exact ⟨u, us, h1, Rep.scal x u hs.1 h2, RepL.scal r us hs.2 h3⟩
end

theorem RepRowsL_split {I : Imm} {sz : Nat} : ∀ (xs : List (List AV)) (i : Nat), (∀ e ∈ xs, e.length = sz) → i < xs.length → ∃ A B, xs.flatten = A ++ xs.getD i [] ++ B ∧ A.length = i * sz ∧ (∀ e', (xs.set i e').flatten = A ++ e' ++ B)
  | [], _, _, h => by simp at h
  | e :: r, 0, hl, _ => ⟨[], r.flatten, by simp, by simp, by simp⟩
  | e :: r, i + 1, hl, h => by
    obtain ⟨A, B, h1, h2, h3⟩ := RepRowsL_split (I := I) r i (fun x hx => hl x (by simp [hx])) (by simpa using h)
    refine ⟨e ++ A, B, by simp [h1], ?_, by simp [h3]⟩
    rw [List.length_append, h2, hl e (by simp), Nat.add_mul]; omega

section ops
variable {G : Gl} {o : Oper} {env : Env} {σ : Sto} {x y : Operand}
theorem Y.lend {fo : Operand} {args : Array Operand} {k : Array TypeId} {f : FuncId} {cap avs ps : List AV} {σs : Sto} {r : AV} (h : o.op = .call ⟨.value fo, args, k⟩) (hf : env.ev fo = .fn f cap)
    (hcall : ∀ (args : Array Value) (w : World), (callFunc f args).run G.P w = .ok (.enter f args) w) (hro : RO G.P f [] avs r) (hp : env.evoL args.toList = some ps) (ha : SealL (σs.freeze σs.ids) (ps ++ cap) avs) (hs : SubS σ σs)
    (hr : r.scal = true) : Yields G o env.ev σ [] σs.ids r := by
  intro σ' cx I β w ρ hR hw _ hop
  have hf1 := hop fo (by simp [h, Op.operands, Call.operands])
  rw [hf] at hf1
  simp only [Rep] at hf1
  obtain ⟨vs, hf1, hcap⟩ := hf1
  rw [run_call h hf1 hcall]
  have hsub : ∀ d o, σs.get d = some o → σ'.get d = some o := fun d o hd => by
    obtain ⟨p, p1, p2, p3⟩ := sto_mem σs d o hd
    rw [hR d (by rw [← p2]; exact List.mem_map.2 ⟨p, p1, rfl⟩), ← p2, ← p3]; exact hs.mem p p1
  obtain ⟨I1, hle, hw1⟩ := (hw.sub hsub).freezeAll σs.ids
  have hargs := RepL_append _ _ _ _ (RepL_map env.ev ρ args.toList fun x hx => hop x (by simp only [h, Op.operands, Call.operands]; simp; right; simpa using hx)) hcap
  rw [Env.evoL_ev hp] at hargs
  have hargs2 := ha.rep hw1 _ (RepL_mono hle (HLe.refl β) _ _ hargs)
  have hin := hw1.into (P := G.P) (σc := []) (by simp)
  refine Calls.mono (hro _ w I1 β _ hin hargs2) ?_
  rintro e w' ⟨v, he, r', σ2, I', β', ⟨hr1, hr2⟩, hrep, hw'⟩
  subst hr1 hr2
  have hst : RelW G cx I β σ' w' := hw.stay (fun b hb => hw'.frame b hb (by simp [callCx, blocksOf, Sto.ids])) hw'.size hw'.tape hw'.os hw'.output
  exact ⟨v, he, I, β, Rep.scal r' v hr hrep, hst, ImmLe.refl I, fun _ _ => rfl⟩

theorem Y.indexO {α : Type} [Inhabited α] {T E sz d T' n : Nat} {k : IntKind} {i : Int} {fz : Bool} (rs : List α) (enc : α → List AV) (h : o.op = .indexAddr T x y) (hx : env.ev x = .own d) (hy : env.ev y = .int k i) (hd : σ.get d = some (.slice T' sz (rs.map enc) n fz)) (hT : SlS G.P T E sz)
    (hi : 0 ≤ i ∧ i < rs.length) : Yields G o env.ev σ [] [d] (.ptr d (i.toNat * sz)) :=
  .pure fun σ' cx I β w ρ hR hw hop => by
    have h1 := hop x (by simp [h, Op.operands]); rw [hx] at h1
    have h2 := hop y (by simp [h, Op.operands]); rw [hy] at h2; have h2 := rep_int h2
    simp only [Rep] at h1
    obtain ⟨h1, hs⟩ := h1
    have hob := hw.objs d _ (by rw [hR d (by simp)]; exact hd)
    simp only [ObjRep, List.length_map] at hob
    have hlt : i.toNat < rs.length := by omega
    rcases hob with q | ⟨_, q, _⟩ | ⟨b, cap, arr, q1, q2, _⟩
    · rw [h1, q] at hs; simp [isSl] at hs
    · have : rs = [] := by simpa using q
      subst this; simp at hlt
    · refine ⟨.pointer (some ⟨b, i.toNat * sz, none⟩), ?_, by simp only [Rep]; exact ⟨b, by rw [q1]; rfl, rfl⟩⟩
      have e1 : ∀ w, (underlying T).run G.P w = .ok (.slice E) w := fun w => by simp [underlying, program, Sem.run, hT.und]
      rw [q1] at h1
      simp [execOp, h, h1, h2, Instr.indexAt, asIntOf, e1, hi, hT.size, addr_add]

/-- what stands behind the handle of an owned slice -/
theorem own_cells {G : Gl} {cx : Cx} {I : Imm} {β : Nat → Value} {σ : Sto} {w : World} (hw : RelW G cx I β σ w) {d T sz k b : Nat} {fz : Bool} {xs : List (List AV)} (hd : σ.get d = some (.slice T sz xs k fz)) (hb : blk (β d) = some b) :
    ∃ cap arr, β d = .slice (some ⟨b, 0, none⟩) xs.length cap ∧ xs.length ≤ cap ∧ cap ≤ maxLen ∧ w.heap[b]? = some (.cells arr T (0, 0)) ∧ arr.size = cap * sz ∧ RepCs I xs.flatten (arr.toList.take (xs.length * sz)) ∧ (∀ e ∈ xs, e.length = sz) ∧ k ≤ xs.length ∧
      (fz = true → ∀ o, o < xs.length * sz → I b o = arr[o]?) ∧ (∀ o, k * sz ≤ o → I b o = none) ∧ Place cx b ∧ RepL I β (xs.flatten ++ List.replicate (arr.size - xs.length * sz) .junk) arr.toList := by
  have ho := hw.objs d _ hd
  simp only [ObjRep] at ho
  rcases ho with q | ⟨q, _⟩ | ⟨b', cap, arr, q1, q2, q3, q4, q5, q6, q7, q8, q9, q10, q11⟩
  · rw [q] at hb; simp [blk] at hb
  · rw [q] at hb; simp [blk] at hb
  · have : b' = b := by rw [q1] at hb; simpa [blk] using hb
    subst this
    refine ⟨cap, arr, q1, q2, q3, q4, q5, q6, q7, q8, q9, q10, q11, ?_⟩
    have e : arr.toList = arr.toList.take (xs.length * sz) ++ arr.toList.drop (xs.length * sz) := (List.take_append_drop _ _).symm
    rw [e]
    refine RepL_append _ _ _ _ (RepCs.rep β _ _ q6) ?_
    have hj : ∀ (l : List Value), RepL I β (List.replicate l.length .junk) l := by
      intro l
      induction l with
      | nil => simp [RepL]
      | cons v r ih => simp only [List.length_cons, List.replicate_succ, RepL]; exact ⟨v, r, rfl, by simp [Rep], ih⟩
    have := hj (arr.toList.drop (xs.length * sz))
    simpa using this

theorem Y.loadO {α : Type} [Inhabited α] {T T' : TypeId} {n d p sz k off : Nat} {fz ag : Bool} {i : Int} (rs : List α) (enc : α → List AV) (h : o.op = .load T x) (hx : env.ev x = .ptr d p) (hd : σ.get d = some (.slice T' sz (rs.map enc) k fz)) (hp : p = i.toNat * sz + off)
    (hi : 0 ≤ i ∧ i < rs.length) (hT : TyS G.P T n ag) (h0 : (ag || Nat.blt 0 n) = true) (hn : Nat.ble (off + n) sz = true) {a : AV} (ha : ldO ag n ((enc (el rs i)).drop off) = some a) : Yields G o env.ev σ [] [d] a :=
  .pure fun σ' cx I β w ρ hR hw hop => by
    have hn : off + n ≤ sz := by simpa using hn
    have h1 := hop x (by simp [h, Op.operands]); rw [hx] at h1
    simp only [Rep] at h1
    obtain ⟨b, h1, h2⟩ := h1
    obtain ⟨cap, arr, q1, q2, q3, q4, q5, q6, q7, q8, q9, q10, q11, q12⟩ := own_cells hw (by rw [hR d (by simp)]; exact hd) h1
    have hlt : i.toNat < rs.length := by omega
    obtain ⟨A, B, s1, s2, _⟩ := RepRowsL_split (I := I) (rs.map enc) i.toNat q7 (by simpa using hlt)
    have hget : (rs.map enc).getD i.toNat [] = enc (el rs i) := by
      simp [List.getD_eq_getElem?_getD, hlt, el]
    rw [hget] at s1
    have hz : (enc (el rs i)).length = sz := q7 _ (by rw [← hget, List.getD_eq_getElem?_getD, List.getElem?_eq_getElem (by simpa using hlt)]; exact List.getElem_mem _)
    obtain ⟨v, r1, r2⟩ := run_load_box hT (fun e => by subst e; simpa using h0) (off := p) q4 q12 (by
      rw [s1]; simp only [List.length_append, s2, hz]; omega)
    refine ⟨v, by simp [execOp, h, h2, Instr.loadAt, Instr.sureAddr, r1], ?_⟩
    have e : ((List.map enc rs).flatten ++ List.replicate (arr.size - (List.map enc rs).length * sz) AV.junk).drop p = (enc (el rs i)).drop off ++ (B ++ List.replicate (arr.size - (List.map enc rs).length * sz) AV.junk) := by
      rw [s1, hp, List.append_assoc, List.append_assoc, ← List.drop_drop, ← s2, List.drop_left, List.drop_append_of_le_length (by omega)]
    rw [e] at r2
    have e2 : ldAV ag n ((enc (el rs i)).drop off ++ (B ++ List.replicate (arr.size - (List.map enc rs).length * sz) AV.junk)) = ldAV ag n ((enc (el rs i)).drop off) := by
      have hl : n ≤ ((enc (el rs i)).drop off).length := by simp; omega
      cases ag with
      | true => simp only [ldAV, cond_true]; rw [List.take_append_of_le_length hl]
      | false =>
        simp only [ldAV, cond_false]
        have hn0 : 0 < n := by simpa using h0
        cases hc : (enc (el rs i)).drop off with
        | nil => rw [hc] at hl; simp at hl; omega
        | cons z t => rfl
    rw [e2, ldO_eq ha] at r2
    exact r2

theorem RepCs_of_L {I : Imm} {β : Nat → Value} {a : List AV} {v : List Value} (hc : closedL a = true) (h : RepL I β a v) : RepCs I a v := RepL.closed a v hc h
theorem D.storeO {α : Type} [Inhabited α] {T T' d p sz k off n : Nat} {fz ag : Bool} {a : AV} {ca : List AV} {i : Int} (rs : List α) (enc : α → List AV) (r' : α) (h : o.op = .store T x y) (hx : env.ev x = .ptr d p) (hy : env.evo y = some a) (hd : σ.get d = some (.slice T' sz (rs.map enc) k fz)) (hp : p = i.toNat * sz + off)
    (hi : 0 ≤ i ∧ i < rs.length) (hk : (k : Int) ≤ i) (hT : TyS G.P T n ag) (hf : a.flat = true) (hca : cellsO a = some ca) (hcl : closedL ca = true) (hn : Nat.beq ca.length n = true) (hl : Nat.ble (off + n) sz = true) (hr : spliceA (enc (el rs i)) off ca = enc r') :
    Does G o env.ev σ [d] [] (fun r σ' => r = .undef ∧ σ' = σ.set d (.slice T' sz ((rs.set i.toNat r').map enc) k false)) := by
  intro cx I β w ρ hw hop
  have hn : ca.length = n := by simpa using hn
  have hl : off + n ≤ sz := by simpa using hl
  have h1 := hop x (by simp [h, Op.operands]); rw [hx] at h1
  have h2 := hop y (by simp [h, Op.operands]); rw [Env.evo_ev hy] at h2
  simp only [Rep] at h1
  obtain ⟨b, h1, h3⟩ := h1
  obtain ⟨cap, arr, q1, q2, q3, q4, q5, q6, q7, q8, q9, q10, q11, q12⟩ := own_cells hw hd h1
  obtain ⟨f1, f2⟩ := AV.flat_spec hf h2
  rw [cellsO_eq hca] at f1
  have l2 := RepL_length _ _ f1
  have hlt : i.toNat < rs.length := by omega
  obtain ⟨A, B, s1, s2, s3⟩ := RepRowsL_split (I := I) (rs.map enc) i.toNat q7 (by simpa using hlt)
  have hget : (rs.map enc).getD i.toNat [] = enc (el rs i) := by simp [List.getD_eq_getElem?_getD, hlt, el]
  rw [hget] at s1
  have hz : (enc (el rs i)).length = sz := q7 _ (by rw [← hget, List.getD_eq_getElem?_getD, List.getElem?_eq_getElem (by simpa using hlt)]; exact List.getElem_mem _)
  have hz' : (enc r').length = sz := by rw [← hr]; simp only [spliceA, List.length_append, List.length_take, List.length_drop, hz]; omega
  simp only [List.length_map] at q1 q2 q5 q6 q8
  have hsz : i.toNat * sz + sz ≤ rs.length * sz := by
    have := Nat.mul_le_mul_right sz (show i.toNat + 1 ≤ rs.length from hlt)
    rwa [Nat.add_mul, Nat.one_mul] at this
  have hsz2 : rs.length * sz ≤ arr.size := by rw [q5]; exact Nat.mul_le_mul_right sz q2
  have hst := run_storeCells_box (P := G.P) q4 (ρ y).cells.toList (off := p) (by omega) f2
  have l3 : (ρ y).cells.size = ca.length := by simpa using l2
  have hrun : (execOp ρ o).run G.P w = .ok .skip (w.setRow b (spliceA arr.toList p (ρ y).cells.toList).toArray) := by
    have e1 : ¬ ((ρ y).cells.size ≠ n) := by omega
    simp [execOp, h, h3, Instr.storeAt, Instr.sureAddr, storeVar, hT.size, e1, hst]
  rw [hrun]
  refine ⟨.undef, _, I, β, ⟨rfl, rfl⟩, by simp [Rep, RepC], ?_, ImmLe.refl I, fun _ _ => rfl, fun x hx => by rw [Sto.set_get, if_neg (by simpa using hx)]⟩
  have hkp : k * sz ≤ p := by
    have : k ≤ i.toNat := by omega
    have := Nat.mul_le_mul_right sz this
    omega
  refine hw.turn (d := d) (Kept.setRow w b _) q11 (fun x hx => by rw [Sto.set_get, if_neg hx]) (fun x hx hs e => hw.sep x d hs (by rw [hd]; rfl) hx b e h1) (ImmLe.refl I) (fun _ _ _ => rfl)
    (fun o v hv => ?_) (fun _ _ => rfl) (.inr rfl) (HLe.refl β) (.inl h1) fun ob hob => ?_
  · -- what is laid down for good lies ahead of p
    have ho : o < k * sz := by
      by_cases ho : o < k * sz
      · exact ho
      · rw [q10 o (by omega)] at hv; cases hv
    have hg := hw.good b o v hv
    simp only [World.cell?, q4] at hg
    simp only [World.cell?, setRow_heap w b arr _ T' _ q4]
    simp only [Option.isSome_none, Bool.false_eq_true, if_false] at hg ⊢
    rw [← hg]
    have : o < p := by omega
    simp only [spliceA, List.getElem?_toArray]
    rw [List.append_assoc, List.getElem?_append_left (by simp; omega), List.getElem?_take, if_pos this, Array.getElem?_toList]
  · rw [Sto.set_get, if_pos rfl, hd] at hob
    injection hob with hob
    subst hob
    simp only [ObjRep, List.length_map, List.length_set]
    refine .inr (.inr ⟨b, cap, _, q1, q2, q3, setRow_heap w b arr _ T' _ q4, ?_, ?_, ?_, q8, (fun h => by cases h), q10, q11⟩)
    · simp only [spliceA, List.size_toArray, List.length_append, List.length_take, List.length_drop, Array.length_toList]; omega
    · have hcs := RepCs_of_L (I := I) hcl f1
      have key : ((rs.set i.toNat r').map enc).flatten = A ++ (spliceA (enc (el rs i)) off ca) ++ B := by
        rw [List.map_set, s3, hr]
      rw [key]
      -- the cells as they stood
      rw [s1] at q6
      obtain ⟨u1, u2, e1, r1, r2⟩ := (RepCs_append _ _ _).1 q6
      obtain ⟨u3, u4, e2, r3, r4⟩ := (RepCs_append _ _ _).1 r1
      have m1 := RepCs_length _ _ r3
      have m2 := RepCs_length _ _ r4
      have m3 := RepCs_length _ _ r2
      have e4 : enc (el rs i) = (enc (el rs i)).take off ++ ((enc (el rs i)).drop off) := (List.take_append_drop _ _).symm
      rw [e4] at r4
      obtain ⟨u5, u6, e5, r5, r6⟩ := (RepCs_append _ _ _).1 r4
      have m5 := RepCs_length _ _ r5
      have e6 : (enc (el rs i)).drop off = ((enc (el rs i)).drop off).take n ++ (enc (el rs i)).drop (off + n) := by
        rw [← List.drop_drop]; exact (List.take_append_drop _ _).symm
      rw [e6] at r6
      obtain ⟨u7, u8, e7, r7, r8⟩ := (RepCs_append _ _ _).1 r6
      have m7 := RepCs_length _ _ r7
      have ml5 : u5.length = off := by rw [m5, List.length_take]; omega
      have ml7 : u7.length = n := by rw [m7, List.length_take, List.length_drop]; omega
      have harr : (spliceA arr.toList p (ρ y).cells.toList).take (rs.length * sz) = u3 ++ (u5 ++ (ρ y).cells.toList ++ u8) ++ u2 := by
        have ha : arr.toList = (u3 ++ (u5 ++ (u7 ++ u8)) ++ u2) ++ arr.toList.drop (rs.length * sz) := by
          conv => lhs; rw [← List.take_append_drop (rs.length * sz) arr.toList]
          rw [e1, e2, e5, e7]
        have hA : (u3 ++ u5).length = p := by rw [List.length_append, m1, ml5, s2, hp]
        have hl3 : (ρ y).cells.toList.length = n := by rw [l2, hn]
        have hsp : spliceA arr.toList p (ρ y).cells.toList = (u3 ++ u5) ++ (ρ y).cells.toList ++ (u8 ++ (u2 ++ arr.toList.drop (rs.length * sz))) := by
          unfold spliceA
          rw [hl3]
          have ha2 : arr.toList = (u3 ++ u5) ++ (u7 ++ (u8 ++ (u2 ++ arr.toList.drop (rs.length * sz)))) := by
            conv => lhs; rw [ha]
            simp only [List.append_assoc]
          have t1 : arr.toList.take p = u3 ++ u5 := by rw [ha2, ← hA, List.take_left]
          have t2 : arr.toList.drop (p + n) = u8 ++ (u2 ++ arr.toList.drop (rs.length * sz)) := by
            rw [← List.drop_drop]
            conv => lhs; rw [ha2]
            rw [← hA, List.drop_left, ← ml7, List.drop_left]
          rw [t1, t2]
        rw [hsp]
        have hlen : ((u3 ++ u5) ++ (ρ y).cells.toList ++ (u8 ++ u2)).length = rs.length * sz := by
          have h9 := congrArg List.length (e1.trans (by rw [e2, e5, e7]))
          simp only [List.length_take, List.length_append, Array.length_toList] at h9
          simp only [List.length_append, hl3]
          omega
        have : (u3 ++ u5) ++ (ρ y).cells.toList ++ (u8 ++ (u2 ++ arr.toList.drop (rs.length * sz))) = ((u3 ++ u5) ++ (ρ y).cells.toList ++ (u8 ++ u2)) ++ arr.toList.drop (rs.length * sz) := by simp
        rw [this, ← hlen, List.take_left]
        simp
      rw [harr]
      refine (RepCs_append _ _ _).2 ⟨_, _, rfl, (RepCs_append _ _ _).2 ⟨_, _, rfl, r3, ?_⟩, r2⟩
      unfold spliceA
      rw [hn]
      exact (RepCs_append _ _ _).2 ⟨_, _, rfl, (RepCs_append _ _ _).2 ⟨_, _, rfl, r5, hcs⟩, r8⟩
    · intro e he
      obtain ⟨z, hz1, rfl⟩ := List.mem_map.1 he
      rcases List.mem_or_eq_of_mem_set hz1 with hz1 | rfl
      · exact q7 _ (List.mem_map_of_mem hz1)
      · exact hz'
end ops
end Go.Proofs.Ytggbjbcgfelgiaa
