/- A region run through as a whole: what its operations come to, reckoned out, and that this holds. No condition but those that stand in each. -/
import Derived.Test.YtggbjbcgfelgiaaB1
namespace Go.Proofs.Ytggbjbcgfelgiaa
set_option linter.all false
open Go

/-! ## what is known of a type -/
inductive Kd where
  | int (k : IntKind)
  | bool
  | str
  | slice (E sz bytes : Nat) (zs : List Value)
  | map (K E : Nat) (k : IntKind)
  | struct (zs : List Value) (pl : List (Nat × Nat)) (ags : List Bool)
  | oth
structure TI where
  sz : Nat
  ag : Bool
  zs : Option (List Value)
  kd : Kd
def KdOk (P : Program) (T : Nat) : Kd → Prop
  | .int k => P.underlying T = some (.int k)
  | .bool => P.underlying T = some .bool
  | .str => P.underlying T = some .string
  | .slice E sz bytes zs => SlS P T E sz ∧ AppS P T E sz bytes ∧ SliS P T E sz zs
  | .map K E k => MapS P T K E k
  | .struct zs pl ags => StrS P T zs pl ∧ (∀ f off sz, pl[f]? = some (off, sz) → FldS P T f off) ∧ ∀ f off sz ag, pl[f]? = some (off, sz) → ags[f]? = some ag → PartS P T f off sz ag
  | .oth => True
structure TIOk (P : Program) (T : Nat) (i : TI) : Prop where
  ty : TyS P T i.sz i.ag
  ze : ∀ zs, i.zs = some zs → ∀ w, ∃ z, (zeroValue T).run P w = .ok z w ∧ z.cells = zs.toArray
  kd : KdOk P T i.kd
abbrev Tb := List (Nat × TI)
def Tb.get : Tb → Nat → Option TI
  | [], _ => none
  | (k, v) :: r, n => bif Nat.beq k n then some v else Tb.get r n
def TbAll (P : Program) : Tb → Prop
  | [] => True
  | (k, v) :: r => TIOk P k v ∧ TbAll P r
theorem TbAll.get {P : Program} : ∀ {tb : Tb} {T : Nat} {i : TI}, TbAll P tb → tb.get T = some i → TIOk P T i
  | [], _, _, _, h => by simp [Tb.get] at h
  | (k, v) :: r, T, i, hh, h => by
    simp only [Tb.get] at h
    cases hk : Nat.beq k T <;> rw [hk] at h
    · exact TbAll.get hh.2 h
    · simp only [cond_true, Option.some.injEq] at h
      have : k = T := by simpa using hk
      subst this h; exact hh.1
structure Wld (P : Program) (tb : Tb) : Prop where
  mix : P.follows .mixedOrders = true
  tys : TbAll P tb
structure CallOk (P : Program) (f : FuncId) : Prop where
  h : ∀ (args : Array Value) (w : World), (callFunc f args).run P w = .ok (.enter f args) w

/-! ## what is told to the run -/
inductive Hint (P : Program) : Type where
  | au
  | al (d : Nat)
  | to (h : Hint P) (a b : AV) (e : a = b)
  | ix (sz : Nat) (xs : List (List AV)) (i : Int) (row : List AV) (pf : Ix sz xs i row)
  | lo (d sz : Nat) (xs : List (List AV)) (i : Int) (off : Nat) (row : List AV) (pf : Ix sz xs i row)
  | so (d sz : Nat) (xs : List (List AV)) (i : Int) (off : Nat) (ca : List AV) (zs : List (List AV)) (pf : St sz xs i off ca zs) (k : Nat) (hk : (k : Int) ≤ i)
  | rf (f : FuncId) (caps avs : List AV) (r : AV) (pf : RO P f [] (avs ++ caps) r) (hc : CallOk P f)
  | ro (raw : Nat) (f : FuncId) (σs : Sto) (avs : List AV) (r : AV) (pf : RO P f σs avs r) (hc : CallOk P f)
  | le (ds : List Nat) (f : FuncId) (avs : List AV) (r : AV) (pf : RO P f [] avs r) (hc : CallOk P f)
  | dc (news : List Nat) (f : FuncId) (σc : Sto) (avs : List AV) (r : AV) (σ2 : Sto) (pf : SCalls P f σc avs (fun a σ' => a = r ∧ σ' = σ2)) (hc : CallOk P f)
  | ap (d2 sz bytes : Nat) (xs ys zs : List (List AV)) (pf : Ap sz bytes xs ys zs)
  | sl (sz : Nat) (xs : List (List AV)) (a b : Int) (zs : List (List AV)) (pf : Sl sz xs a b zs)
  | qr (n : Int) (pf : n ≠ 0)
  | sh (n : Int) (pf : 0 ≤ n)
  | is (s : ByteArray) (n : Int) (b : UInt8) (pf : 0 ≤ n ∧ s[n.toNat]? = some b)
  | lk (E : Nat) (k : IntKind) (ents : List (AV × AV)) (n : Int) (a : AV) (b : Bool) (pf : Lk P E k ents n a b)
  | mu (k : IntKind) (ents : List (AV × AV)) (n : Int) (v : AV) (ents' : List (AV × AV)) (pf : Mu k ents n v ents')
  | lm (k : IntKind) (ents : List (AV × AV)) (n : Int) (pf : Lm k ents n)
  | sq (neg : Bool) (T : Nat) (a b : AV) (r : Bool) (pf : ∀ (x y : Operand) w, (do eqGuard (bif neg then .neq else .eql) T x y (valOf a) (valOf b); binOp (bif neg then .neq else .eql) T (valOf a) (valOf b) : Sem Value).run P w = .ok (.bool r) w)
abbrev Obs := List AV × Sto
def Hint.exp {P : Program} : Hint P → Obs
  | .au | .al _ => ([], [])
  | .to h a _ _ => (a :: h.exp.1, h.exp.2)
  | .ix _ xs i _ _ => ([.lst false xs, .int .i64 i], [])
  | .lo d sz xs i off _ _ => ([.lst false xs, .ptr d (i.toNat * sz + off)], [])
  | .so d sz xs i off ca _ _ _ _ => ([.lst false xs, .ptr d (i.toNat * sz + off), .agg ca], [])
  | .rf f caps avs _ _ _ => (.fn f caps :: avs, [])
  | .ro _ f σs avs _ _ _ => (.fn f [] :: avs, σs)
  | .le _ f avs _ _ _ => (.fn f [] :: avs, [])
  | .dc _ f σc avs _ _ _ _ => (.fn f [] :: avs, σc)
  | .ap _ _ _ xs ys _ _ => ([.lst false xs, .lst false ys], [])
  | .sl _ xs a b _ _ => ([.lst false xs, .int .i64 a, .int .i64 b], [])
  | .qr n _ | .sh n _ => ([.int .i64 n], [])
  | .is s n _ _ => ([.str s, .int .i64 n], [])
  | .lk _ _ ents n _ _ _ => ([.int .i64 n], [(0, .map 0 0 ents)])
  | .mu _ ents n v _ _ => ([.int .i64 n, v], [(0, .map 0 0 ents)])
  | .lm _ ents _ _ => ([], [(0, .map 0 0 ents)])
  | .sq _ _ a b _ _ => ([a, b], [])

/-! ## reckoning -/
inductive Stp where
  | y (R : List Nat) (av : AV)
  | v (d : Nat) (ob : AObj) (av : AV)
  | e (M news : List Nat) (av : AV) (σ' : Sto)

mutual
def sealE (kp : List Nat) (σ : Sto) : AV → Option AV
  | .own d => bif kp.contains d then some (.own d) else match σ.get d with
    | some (.slice _ _ xs _ true) => some (.lst false xs)
    | _ => none
  | .nils => some (.lst false [])
  | .sl0 => some (.lst false [])
  | .lst true xs => some (.lst false xs)
  | .agg cs => match sealEL kp σ cs with | none => none | some l => some (.agg l)
  | .tup cs => match sealEL kp σ cs with | none => none | some l => some (.tup l)
  | .fn f cs => match sealEL kp σ cs with | none => none | some l => some (.fn f l)
  | a => some a
def sealEL (kp : List Nat) (σ : Sto) : List AV → Option (List AV)
  | [] => some []
  | x :: r => match sealE kp σ x with
    | none => none
    | some a => match sealEL kp σ r with
      | none => none
      | some l => some (a :: l)
end
mutual
theorem sealE_ok {kp : List Nat} {σ : Sto} : ∀ {a b : AV}, sealE kp σ a = some b → Seal σ a b
  | .own d, b, h => by
    simp only [sealE] at h
    cases hk : kp.contains d with
    | true => rw [hk] at h; simp only [cond_true, Option.some.injEq] at h; subst h; exact .refl _
    | false =>
      rw [hk] at h
      simp only [cond_false] at h
      split at h
      · rename_i hd; simp only [Option.some.injEq] at h; subst h; exact .own hd
      · cases h
  | .nils, b, h => by simp only [sealE, Option.some.injEq] at h; subst h; exact .nil false
  | .sl0, b, h => by simp only [sealE, Option.some.injEq] at h; subst h; exact .sl0
  | .lst true xs, b, h => by simp only [sealE, Option.some.injEq] at h; subst h; exact .full xs
  | .agg cs, b, h => by
    simp only [sealE] at h
    split at h
    · cases h
    · rename_i l hl; simp only [Option.some.injEq] at h; subst h; exact .agg (sealEL_ok hl)
  | .tup cs, b, h => by
    simp only [sealE] at h
    split at h
    · cases h
    · rename_i l hl; simp only [Option.some.injEq] at h; subst h; exact .tup (sealEL_ok hl)
  | .fn f cs, b, h => by
    simp only [sealE] at h
    split at h
    · cases h
    · rename_i l hl; simp only [Option.some.injEq] at h; subst h; exact .fn (sealEL_ok hl)
  | .lst false _, b, h | .junk, b, h | .undef, b, h | .int _ _, b, h | .bool _, b, h | .str _, b, h | .lptr _, b, h | .nilp, b, h | .ptr _ _, b, h | .mapv _, b, h | .cfn _ _, b, h => by
    simp only [sealE, Option.some.injEq] at h; subst h; exact .refl _
theorem sealEL_ok {kp : List Nat} {σ : Sto} : ∀ {a b : List AV}, sealEL kp σ a = some b → SealL σ a b
  | [], b, h => by simp only [sealEL, Option.some.injEq] at h; subst h; exact .nil
  | x :: r, b, h => by
    simp only [sealEL] at h
    split at h
    · cases h
    · rename_i a ha
      split at h
      · cases h
      · rename_i l hl
        simp only [Option.some.injEq] at h; subst h
        exact .cons (sealE_ok ha) (sealEL_ok hl)
end
/-- some objects of a store -/
def Sto.at (σ : Sto) : List Nat → Option Sto
  | [] => some []
  | d :: r => match σ.get d with
    | none => none
    | some o => match Sto.at σ r with
      | none => none
      | some l => some ((d, o) :: l)
theorem Sto.at_sub {σ : Sto} : ∀ {ds : List Nat} {l : Sto}, σ.at ds = some l → SubS σ l ∧ l.ids = ds
  | [], l, h => by simp only [Sto.at, Option.some.injEq] at h; subst h; exact ⟨trivial, rfl⟩
  | d :: r, l, h => by
    simp only [Sto.at] at h
    split at h
    · cases h
    · rename_i o ho
      split at h
      · cases h
      · rename_i m hm
        simp only [Option.some.injEq] at h; subst h
        obtain ⟨h1, h2⟩ := Sto.at_sub hm
        exact ⟨⟨ho, h1⟩, by simp only [Sto.ids, List.map_cons] at h2 ⊢; rw [h2]⟩
theorem SubS.refl' {σ : Sto} (h : SubS σ σ) : SubS σ σ := h

/-! the whole of memory as it stands, for a call that only reads -/
def deepL (f : AV → Option AV) : List AV → Option (List AV)
  | [] => some []
  | x :: r => match f x with
    | none => none
    | some a => match deepL f r with
      | none => none
      | some l => some (a :: l)
def deepE : Nat → Sto → AV → Option AV
  | 0, _, _ => none
  | n + 1, σ, a => match a with
    | .own d => (match σ.get d with | some (.slice _ _ xs _ _) => some (.lst false xs) | _ => none)
    | .ptr d p => (match σ.get d with
      | some (.cells _ cs) => (match deepL (deepE n σ) (cs.drop p) with | none => none | some l => some (.lptr l))
      | _ => none)
    | .nils => some (.lst false [])
    | .lst true xs => some (.lst false xs)
    | .agg cs => (match deepL (deepE n σ) cs with | none => none | some l => some (.agg l))
    | .tup cs => (match deepL (deepE n σ) cs with | none => none | some l => some (.tup l))
    | .fn f cs => (match deepL (deepE n σ) cs with | none => none | some l => some (.fn f l))
    | .mapv _ => none
    | .sl0 => some (.lst false [])
    | a => some a
def snap (w : World) : Imm := fun b o => w.cell? ⟨b, o, none⟩
theorem deepL_ok {f : AV → Option AV} {I J : Imm} {β : Nat → Value} (hf : ∀ a b, f a = some b → ∀ v, Rep I β a v → RepC J b v) : ∀ {l m : List AV}, deepL f l = some m → ∀ vs, RepL I β l vs → RepCs J m vs
  | [], m, h, vs, hr => by simp only [deepL, Option.some.injEq] at h; subst h; exact hr
  | x :: r, m, h, vs, hr => by
    simp only [deepL] at h
    split at h
    · cases h
    · rename_i a ha
      split at h
      · cases h
      · rename_i l hl
        simp only [Option.some.injEq] at h; subst h
        simp only [RepL] at hr
        obtain ⟨u, us, rfl, h1, h2⟩ := hr
        exact ⟨u, us, rfl, hf x a ha u h1, deepL_ok hf hl us h2⟩
theorem deepE_ok {G : Gl} {cx : Cx} {I : Imm} {β : Nat → Value} {σ : Sto} {w : World} (hw : RelW G cx I β σ w) : ∀ (n : Nat) (a b : AV), deepE n σ a = some b → ∀ v, Rep I β a v → RepC (snap w) b v
  | 0, a, b, h, _, _ => by cases h
  | n + 1, a, b, h, v, hr => by
    have hle : ImmLe I (snap w) := fun b o v hv => hw.good b o v hv
    have ih := deepE_ok hw n
    cases a with
    | own d =>
      simp only [deepE] at h
      split at h
      · rename_i T sz xs k fz hd
        cases h
        simp only [Rep] at hr
        obtain ⟨rfl, hs⟩ := hr
        have hob := hw.objs d _ hd
        simp only [ObjRep] at hob
        simp only [RepC]
        rcases hob with q | ⟨q, rfl, _⟩ | ⟨b, cap, arr, q1, q2, q3, q4, q5, q6, q7, _⟩
        · rw [q] at hs; simp [isSl] at hs
        · exact ⟨none, 0, q, by simp, by simp [maxLen], by simp, .inl rfl⟩
        · refine ⟨_, cap, q1, q2, q3, by simp, .inr ⟨b, 0, rfl, ?_⟩⟩
          refine RepRows_of xs 0 _ (RepCs_mono hle _ _ q6) fun j v hv => ?_
          rw [Nat.zero_add]
          rw [List.getElem?_take] at hv
          split at hv
          · simp only [snap, World.cell?, q4]
            simpa using hv
          · cases hv
      · cases h
    | ptr d p =>
      simp only [deepE] at h
      split at h
      · rename_i T cs hd
        split at h
        · cases h
        · rename_i l hl
          cases h
          simp only [Rep] at hr
          obtain ⟨bb, hb, rfl⟩ := hr
          obtain ⟨arr, q1, q2, q3, _⟩ := RelW.box hw hd hb
          simp only [RepC]
          refine ⟨bb, p, rfl, ?_⟩
          have := deepL_ok (J := snap w) ih hl _ (RepL_drop p _ _ q3)
          refine RepRow_of l p _ this fun j v hv => ?_
          simp only [snap, World.cell?, q2]
          simpa using hv
      · cases h
    | nils => cases h; simp only [Rep, RepC] at hr ⊢; exact ⟨none, 0, hr, by simp, by simp [maxLen], by simp, by simp⟩
    | lst f xs =>
      have h1 : RepC (snap w) (.lst f xs) v := RepC_mono hle _ _ (by simpa only [Rep] using hr)
      cases f with
      | false => cases h; exact h1
      | true =>
        cases h
        simp only [RepC] at h1 ⊢
        obtain ⟨a, c, h2, h3, h4, _, h5⟩ := h1
        exact ⟨a, c, h2, h3, h4, by simp, h5⟩
    | agg cs =>
      simp only [deepE] at h
      split at h
      · cases h
      · rename_i l hl; cases h
        simp only [Rep] at hr
        obtain ⟨vs, rfl, hr⟩ := hr
        simp only [RepC]; exact ⟨vs, rfl, deepL_ok ih hl _ hr⟩
    | tup cs =>
      simp only [deepE] at h
      split at h
      · cases h
      · rename_i l hl; cases h
        simp only [Rep] at hr
        obtain ⟨vs, rfl, hr⟩ := hr
        simp only [RepC]; exact ⟨vs, rfl, deepL_ok ih hl _ hr⟩
    | fn f cs =>
      simp only [deepE] at h
      split at h
      · cases h
      · rename_i l hl; cases h
        simp only [Rep] at hr
        obtain ⟨vs, rfl, hr⟩ := hr
        simp only [RepC]; exact ⟨vs, rfl, deepL_ok ih hl _ hr⟩
    | mapv d => cases h
    | sl0 =>
      cases h
      simp only [Rep, RepC] at hr ⊢
      obtain ⟨a, c, hr, hc⟩ := hr
      exact ⟨some a, c, hr, by simp, hc, by simp, by simp⟩
    | cfn f cs => cases h; exact RepC_mono hle _ _ (by simpa only [Rep] using hr)
    | junk => cases h; simp [RepC]
    | undef => cases h; exact RepC_mono hle _ _ (by simpa only [Rep] using hr)
    | int k n => cases h; exact RepC_mono hle _ _ (by simpa only [Rep] using hr)
    | bool b => cases h; exact RepC_mono hle _ _ (by simpa only [Rep] using hr)
    | str s => cases h; exact RepC_mono hle _ _ (by simpa only [Rep] using hr)
    | lptr cs => cases h; exact RepC_mono hle _ _ (by simpa only [Rep] using hr)
    | nilp => cases h; exact RepC_mono hle _ _ (by simpa only [Rep] using hr)
/-- a function value that is handed over -/
def deepC (n : Nat) (σ : Sto) (a : AV) : Option AV := match deepE n σ a with
  | some (.fn f l) => some (.cfn f l)
  | x => x
theorem deepC_ok {G : Gl} {cx : Cx} {I : Imm} {β : Nat → Value} {σ : Sto} {w : World} (hw : RelW G cx I β σ w) (n : Nat) (a b : AV) (h : deepC n σ a = some b) (v : Value) (hr : Rep I β a v) : RepC (snap w) b v := by
  unfold deepC at h
  split at h
  · rename_i f l he
    cases h
    have := deepE_ok hw n a _ he v hr
    simpa only [RepC] using this
  · exact deepE_ok hw n a _ h v hr
theorem RepCs.repL {I : Imm} {β : Nat → Value} : ∀ {l : List AV} {vs : List Value}, RepCs I l vs → RepL I β l vs := fun h => RepCs.rep β _ _ h
theorem Y.shot {G : Gl} {o : Oper} {env : Env} {σ : Sto} {fo : Operand} {args : Array Operand} {k : Array TypeId} {f : FuncId} {cap avs ps : List AV} {σs : Sto} {r : AV} (n : Nat) (h : o.op = .call ⟨.value fo, args, k⟩) (hf : env.ev fo = .fn f cap)
    (hcall : ∀ (args : Array Value) (w : World), (callFunc f args).run G.P w = .ok (.enter f args) w) (hro : RO G.P f [] avs r) (hp : env.evoL args.toList = some ps) (ha : deepL (deepC n σs) (ps ++ cap) = some avs) (hs : SubS σ σs)
    (hr : r.scal = true) : Yields G o env.ev σ [] σs.ids r := by
  intro σ' cx I β w ρ hR hw _ hop
  have hf1 := hop fo (by simp [h, Op.operands, Call.operands])
  rw [hf] at hf1
  simp only [Rep] at hf1
  obtain ⟨vs, hf1, hcap⟩ := hf1
  rw [run_call h hf1 hcall]
  have hsub : ∀ d o, σs.get d = some o → σ'.get d = some o := fun d o hd => by
    obtain ⟨p, p1, p2, p3⟩ := sto_mem σs d o hd
    rw [hR d (by rw [← p2]; exact List.mem_map.2 ⟨p, p1, rfl⟩), ← p2, ← p3]; exact hs.mem p p1
  have hws := hw.sub hsub
  have hargs := RepL_append _ _ _ _ (RepL_map env.ev ρ args.toList fun x hx => hop x (by simp only [h, Op.operands, Call.operands]; simp; right; simpa using hx)) hcap
  rw [Env.evoL_ev hp] at hargs
  have hargs2 := deepL_ok (J := snap w) (deepC_ok hws n) ha _ hargs
  have hin : RelW ⟨G.P, 0, []⟩ (callCx (snap w) β [] w) (snap w) β [] w :=
    { good := fun b o v hv => hv, imono := ImmLe.refl _, iext := fun _ _ _ _ => rfl, frame := fun _ _ _ => rfl, size := Nat.le_refl _, tape := rfl, os := rfl, output := rfl,
      objs := fun d o hd => by simp [Sto.get] at hd, sep := fun d d' hd => by simp [Sto.get] at hd, keep := fun d hd => by simp at hd }
  refine Calls.mono (hro _ w (snap w) β _ hin hargs2.repL) ?_
  rintro e w' ⟨v, he, r', σ2, I', β', ⟨hr1, hr2⟩, hrep, hw'⟩
  subst hr1 hr2
  have hst : RelW G cx I β σ' w' := hw.stay (fun b hb => hw'.frame b hb (by simp [callCx, blocksOf, Sto.ids])) hw'.size hw'.tape hw'.os hw'.output
  exact ⟨v, he, I, β, Rep.scal r' v hr hrep, hst, ImmLe.refl I, fun _ _ => rfl⟩

def binI (op : BinOp) (k : IntKind) (m n : Int) : Option AV := match op with
  | .add => some (.int k (k.wrap (m + n)))
  | .sub => some (.int k (k.wrap (m - n)))
  | .mul => some (.int k (k.wrap (m * n)))
  | .lss => some (.bool (decide (m < n)))
  | .leq => some (.bool (decide (m ≤ n)))
  | .gtr => some (.bool (decide (n < m)))
  | .geq => some (.bool (decide (n ≤ m)))
  | .eql => some (.bool (decide (m = n)))
  | .neq => some (.bool (!decide (m = n)))
  | .and => some (.int k (bitsI .and k m n))
  | .or => some (.int k (bitsI .or k m n))
  | .xor => some (.int k (bitsI .xor k m n))
  | .andNot => some (.int k (bitsI .andNot k m n))
  | _ => none
def auLen (tb : Tb) (env : Env) (σ : Sto) (c : Call) : Option (List Nat × AV) := match c.callee with
  | .builtin b => (match b with
    | .len => (match c.args.toList with
      | [x] => (match c.argTypes.toList with
        | [T] => (match tb.get T with
          | some ⟨_, _, _, .slice _ _ _ _⟩ => (match env.evo x with
            | some (.lst _ xs) => some ([], .int .i64 (xs.length : Int))
            | some .nils => some ([], .int .i64 0)
            | some (.own d) => (match σ.get d with | some (.slice _ _ xs _ _) => some ([d], .int .i64 (xs.length : Int)) | _ => none)
            | _ => none)
          | some ⟨_, _, _, .str⟩ => (match env.evo x with | some (.str s) => some ([], .int .i64 (s.size : Int)) | _ => none)
          | _ => none)
        | _ => none)
      | _ => none)
    | .min => (match c.args.toList with
      | [x, y] => (match env.evo x with
        | some (.int k m) => (match env.evo y with | some (.int _ n) => some ([], .int k (if n < m then n else m)) | _ => none)
        | _ => none)
      | _ => none)
    | .max => (match c.args.toList with
      | [x, y] => (match env.evo x with
        | some (.int k m) => (match env.evo y with | some (.int _ n) => some ([], .int k (if n > m then n else m)) | _ => none)
        | _ => none)
      | _ => none)
    | _ => none)
  | _ => none
def auY (tb : Tb) (env : Env) (σ : Sto) : Op → Option (List Nat × AV)
  | .move x | .assign x => match env.evo x with | none => none | some a => some ([], a)
  | .pick c x y => match env.evo c with
    | some (.bool true) => (match env.evo x with | none => none | some a => some ([], a))
    | some (.bool false) => (match env.evo y with | none => none | some a => some ([], a))
    | _ => none
  | .fieldAddr T x f => match tb.get T with
    | some ⟨_, _, _, .struct _ pl _⟩ => (match pl[f]? with
      | none => none
      | some (off, _) => match env.evo x with
        | some (.ptr d p) => some ([], .ptr d (p + off))
        | some (.lptr cs) => (match spine (cs.drop off) with | none => none | some l => some ([], .lptr l))
        | _ => none)
    | _ => none
  | .field T x f => match tb.get T with
    | some ⟨_, _, _, .struct _ pl ags⟩ => (match pl[f]? with
      | none => none
      | some (off, n) => match ags[f]? with
        | none => none
        | some ag => match env.evo x with
          | some (.agg cs) => bif Nat.ble (off + n) cs.length then (match ldO ag n (cs.drop off) with | none => none | some a => some ([], a)) else none
          | _ => none)
    | _ => none
  | .load T x => match tb.get T with
    | none => none
    | some i => match env.evo x with
      | some (.ptr d p) => (match σ.get d with
        | some (.cells _ cs) => bif (i.ag || Nat.blt 0 i.sz) && Nat.ble (p + i.sz) cs.length then (match ldO i.ag i.sz (cs.drop p) with | none => none | some a => some ([d], a)) else none
        | _ => none)
      | some (.lptr cs) => bif (i.ag || Nat.blt 0 i.sz) && Nat.ble i.sz cs.length then (match ldO i.ag i.sz cs with | none => none | some a => some ([], a)) else none
      | _ => none
  | .binOp op T x y _ => match env.evo x with
    | some (.int k m) => (match env.evo y with
      | some (.int k' n) => bif decide (k = k') then (match binI op k m n with | none => none | some a => some ([], a)) else none
      | _ => none)
    | some (.bool a) => (match tb.get T with
      | some ⟨_, _, _, .bool⟩ => (match env.evo y with
        | some (.bool b) => (match op with
          | .eql => some ([], .bool (a == b))
          | .neq => some ([], .bool (!(a == b)))
          | _ => none)
        | _ => none)
      | _ => none)
    | _ => none
  | .unOp op _ x => match op with
    | .not => (match env.evo x with | some (.bool b) => some ([], .bool (!b)) | _ => none)
    | .neg => (match env.evo x with | some (.int k n) => some ([], .int k (k.wrap (0 - n))) | _ => none)
    | _ => none
  | .convert T T' x => match tb.get T with
    | some ⟨_, _, _, .int _⟩ => (match tb.get T' with
      | some ⟨_, _, _, .int k'⟩ => (match env.evo x with | some (.int _ n) => some ([], .int k' (k'.wrap n)) | _ => none)
      | _ => none)
    | _ => none
  | .extract x j => match env.evo x with
    | some (.tup vs) => (match vs[j]? with | none => none | some a => some ([], a))
    | _ => none
  | .nilCheck x => match env.evo x with
    | some (.ptr d p) => some ([], .ptr d p)
    | some (.lptr cs) => some ([], .lptr cs)
    | _ => none
  | .build T parts => match tb.get T with
    | some ⟨_, _, _, .struct zs pl _⟩ => (match env.evoP parts.toList with
      | none => none
      | some ps => match fillO pl (avOfL zs) ps with | none => none | some cs => some ([], .agg cs))
    | _ => none
  | .buildSlice T len parts => match tb.get T with
    | some ⟨_, _, _, .slice _ sz _ _⟩ => bif Nat.beq parts.size len && (Nat.ble (len * sz) 65536 && Nat.ble len 65536) then (match env.evoP parts.toList with
      | none => none
      | some ps => match fillAllO sz 0 ps with
        | none => none
        | some xs => bif closedL xs.flatten then some ([], .lst true xs) else none) else none
    | _ => none
  | .makeFunc fn first cap => match fn with
    | .func f => (match first.toList with
      | [] => (match env.evoL cap.toList with | none => none | some l => some ([], .fn f l))
      | _ => none)
    | _ => none
  | .call c => auLen tb env σ c
  | _ => none
end Go.Proofs.Ytggbjbcgfelgiaa
