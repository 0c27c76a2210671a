/- The rules as the printed walks use them: each value comes out as it was stored. No condition. -/
import Derived.Test.YtggbjbcgfelgiaaA8
namespace Go.Proofs.Ytggbjbcgfelgiaa
set_option linter.all false
open Go

def Env.find : Env → Nat → Option AV
  | [], _ => none
  | (k, v) :: r, n => bif Nat.beq k n then some v else Env.find r n
theorem Env.find_get : ∀ {env : Env} {t : Nat} {a : AV}, env.find t = some a → env.get t = a
  | [], _, _, h => by simp [Env.find] at h
  | (k, v) :: r, t, a, h => by
    simp only [Env.find] at h
    simp only [Env.get]
    cases hk : Nat.beq k t <;> rw [hk] at h
    · exact Env.find_get (env := r) h
    · simpa using h
def Env.evo (env : Env) : Operand → Option AV
  | .tmp t => env.find t
  | .const (.int k n) => some (.int k n)
  | .const (.bool b) => some (.bool b)
  | .const (.string s) => some (.str s)
  | .const (.slice none 0 0) => some .nils
  | .const v => some (avOf v)
  | .func f => some (.fn f [])
  | .global _ => none
theorem Env.evo_ev {env : Env} {x : Operand} {a : AV} (h : env.evo x = some a) : env.ev x = a := by
  unfold Env.evo at h
  split at h <;> first | exact Env.find_get h | (simp only [Env.ev, avOf]; simpa using h) | (simp only [Env.ev]; simpa using h) | cases h
def Env.evoL (env : Env) : List Operand → Option (List AV)
  | [] => some []
  | x :: r => match env.evo x with
    | none => none
    | some a => match Env.evoL env r with
      | none => none
      | some l => some (a :: l)
theorem Env.evoL_ev {env : Env} : ∀ {xs : List Operand} {l : List AV}, env.evoL xs = some l → xs.map env.ev = l
  | [], l, h => by simpa [Env.evoL] using h
  | x :: r, l, h => by
    simp only [Env.evoL] at h
    cases h1 : env.evo x with
    | none => rw [h1] at h; cases h
    | some a =>
      rw [h1] at h
      simp only at h
      cases h2 : Env.evoL env r with
      | none => rw [h2] at h; cases h
      | some l' =>
        rw [h2] at h
        simp only [Option.some.injEq] at h
        subst h
        simp [Env.evo_ev h1, Env.evoL_ev h2]
def Env.evoP (env : Env) : List (Nat × Operand) → Option (List (Nat × AV))
  | [] => some []
  | (i, x) :: r => match env.evo x with
    | none => none
    | some a => match Env.evoP env r with
      | none => none
      | some l => some ((i, a) :: l)
theorem Env.evoP_ev {env : Env} : ∀ {xs : List (Nat × Operand)} {l : List (Nat × AV)}, env.evoP xs = some l → xs.map (fun p => (p.1, env.ev p.2)) = l
  | [], l, h => by simpa [Env.evoP] using h
  | (i, x) :: r, l, h => by
    simp only [Env.evoP] at h
    cases h1 : env.evo x with
    | none => rw [h1] at h; cases h
    | some a =>
      rw [h1] at h
      simp only at h
      cases h2 : Env.evoP env r with
      | none => rw [h2] at h; cases h
      | some l' =>
        rw [h2] at h
        simp only [Option.some.injEq] at h
        subst h
        simp [Env.evo_ev h1, Env.evoP_ev h2]
/-- the element at a place -/
def el {α : Type} [Inhabited α] (l : List α) (i : Int) : α := l.getD i.toNat default
/-- the spine of a list, laid open -/
def spine {α : Type} : List α → Option (List α)
  | [] => some []
  | x :: r => match spine r with
    | none => none
    | some l => some (x :: l)
theorem spine_eq {α : Type} : ∀ {xs l : List α}, spine xs = some l → xs = l
  | [], l, h => by simpa [spine] using h
  | x :: r, l, h => by
    simp only [spine] at h
    cases h2 : spine r with
    | none => rw [h2] at h; cases h
    | some l' =>
      rw [h2] at h
      simp only [Option.some.injEq] at h
      rw [← h, spine_eq h2]
def cellsO : AV → Option (List AV)
  | .agg cs => spine cs
  | a => some [a]
theorem cellsO_eq {a : AV} {cs : List AV} (h : cellsO a = some cs) : cellsAV a = cs := by
  unfold cellsO at h
  split at h
  · exact spine_eq h
  · rename_i hne
    simp only [Option.some.injEq] at h
    rw [← h]
    cases a <;> first | rfl | exact absurd rfl (hne _)
def ldO (ag : Bool) (n : Nat) (cs : List AV) : Option AV :=
  match ag with
  | true => match spine (cs.take n) with
    | none => none
    | some l => some (.agg l)
  | false => match cs with
    | [] => none
    | x :: _ => some x
theorem ldO_eq {ag : Bool} {n : Nat} {cs : List AV} {a : AV} (h : ldO ag n cs = some a) : ldAV ag n cs = a := by
  cases ag with
  | true =>
    simp only [ldO] at h
    cases h2 : spine (cs.take n) with
    | none => rw [h2] at h; cases h
    | some l =>
      rw [h2] at h
      simp only [Option.some.injEq] at h
      rw [← h, ← spine_eq h2]; rfl
  | false =>
    cases cs with
    | nil => simp [ldO] at h
    | cons x r => simp only [ldO, Option.some.injEq] at h; rw [← h]; rfl
def fillO (pl : List (Nat × Nat)) (cells : List AV) : List (Nat × AV) → Option (List AV)
  | [] => spine cells
  | (i, a) :: rest => match pl[i]? with
    | none => none
    | some (off, size) => match cellsO a with
      | none => none
      | some ca => bif Nat.beq ca.length size && Nat.ble (off + ca.length) cells.length && a.flat then
          (match spine (spliceA cells off ca) with
          | none => none
          | some l => fillO pl l rest) else none
theorem fillO_eq (pl : List (Nat × Nat)) : ∀ {parts : List (Nat × AV)} {cells out : List AV}, fillO pl cells parts = some out → fillA pl cells parts = some out
  | [], cells, out, h => by simp only [fillO] at h; simp only [fillA]; rw [spine_eq h]
  | (i, a) :: rest, cells, out, h => by
    simp only [fillO] at h
    simp only [fillA]
    cases hp : pl[i]? with
    | none => rw [hp] at h; cases h
    | some os =>
      obtain ⟨off, size⟩ := os
      rw [hp] at h
      simp only at h ⊢
      cases hc : cellsO a with
      | none => rw [hc] at h; cases h
      | some ca =>
        rw [hc] at h
        simp only at h
        rw [cellsO_eq hc]
        cases hb : (Nat.beq ca.length size && Nat.ble (off + ca.length) cells.length && a.flat) with
        | false => rw [hb] at h; simp at h
        | true =>
          rw [hb] at h
          simp only [cond_true] at h ⊢
          cases hs : spine (spliceA cells off ca) with
          | none => rw [hs] at h; cases h
          | some l =>
            rw [hs] at h
            simp only at h
            rw [spine_eq hs]
            exact fillO_eq pl h
def fillAllO (sz : Nat) : Nat → List (Nat × AV) → Option (List (List AV))
  | _, [] => some []
  | k, (i, a) :: r => match cellsO a with
    | none => none
    | some ca => bif Nat.beq i k && Nat.beq ca.length sz && a.flat then
        (match fillAllO sz (k + 1) r with
        | none => none
        | some l => some (ca :: l)) else none
theorem fillAllO_eq (sz : Nat) : ∀ {parts : List (Nat × AV)} {k : Nat} {out : List (List AV)}, fillAllO sz k parts = some out → fillAll sz k parts = some out
  | [], k, out, h => by simpa [fillAllO, fillAll] using h
  | (i, a) :: r, k, out, h => by
    simp only [fillAllO] at h
    simp only [fillAll]
    cases hc : cellsO a with
    | none => rw [hc] at h; cases h
    | some ca =>
      rw [hc] at h
      simp only at h
      rw [cellsO_eq hc]
      cases hb : (Nat.beq i k && Nat.beq ca.length sz && a.flat) with
      | false => rw [hb] at h; simp at h
      | true =>
        rw [hb] at h
        simp only [cond_true] at h ⊢
        cases hf : fillAllO sz (k + 1) r with
        | none => rw [hf] at h; cases h
        | some l =>
          rw [hf] at h
          simp only [Option.some.injEq] at h
          rw [fillAllO_eq sz hf, ← h]; rfl

/-- objects of one store that stand in another -/
def SubS (σ : Sto) : Sto → Prop
  | [] => True
  | (d, o) :: r => σ.get d = some o ∧ SubS σ r
theorem SubS.mem {σ : Sto} : ∀ {σ2 : Sto}, SubS σ σ2 → ∀ p ∈ σ2, σ.get p.1 = some p.2
  | [], _, p, h => by simp at h
  | (d, o) :: r, h, p, hp => by
    rcases List.mem_cons.1 hp with rfl | hp
    · exact h.1
    · exact SubS.mem h.2 p hp
def AllSeal (σ : Sto) (env : Env) : Env → Prop
  | [] => True
  | (k, v) :: r => Seal σ (env.get k) v ∧ AllSeal σ env r
theorem AllSeal.mem {σ : Sto} {env : Env} : ∀ {env2 : Env}, AllSeal σ env env2 → ∀ p ∈ env2, Seal σ (env.get p.1) p.2
  | [], _, p, h => by simp at h
  | (d, o) :: r, h, p, hp => by
    rcases List.mem_cons.1 hp with rfl | hp
    · exact h.1
    · exact AllSeal.mem h.2 p hp
def AllFind (env : Env) : Env → Prop
  | [] => True
  | (k, v) :: r => env.find k = some v ∧ AllFind env r
theorem AllFind.sealT {σ : Sto} {env : Env} : ∀ {env2 : Env}, AllFind env env2 → AllSeal σ env env2
  | [], _ => trivial
  | (k, v) :: r, h => ⟨by rw [Env.find_get h.1]; exact .refl _, AllFind.sealT h.2⟩

theorem iff_f {b : Bool} {φ : Prop} (h : b = true ↔ φ) (hb : b = false) : ¬ φ := fun hp => by rw [h.2 hp] at hb; cases hb
theorem Seal.of_eq {σ : Sto} {a b : AV} (h : a = b) : Seal σ a b := by subst h; exact .refl _
/-- the same with objects renamed: 's' takes the names of the goal to those that stand -/
theorem Weak.back {G : Gl} {env env2 : Env} {σ σ2 : Sto} (r s : Nat → Nat) (he : AllSeal σ env (env2.ren s)) (hs : SubS σ (σ2.ren s)) (hok : renOk r s G.ids (env2.ren s) (σ2.ren s) = true) (h1 : (env2.ren s).ren r = env2) (h2 : (σ2.ren s).ren r = σ2) : Weak G env σ env2 σ2 := by
  have := (Weak.drop (G := G) he.mem hs.mem).trans (Weak.ren r s hok)
  rwa [h1, h2] at this

section rules
variable {G : Gl} {env : Env} {σ : Sto} {Q : Exit → Env → Sto → Prop} {x y c : Code}

theorem Weak.of {env2 : Env} {σ2 : Sto} (he : AllSeal σ env env2) (hs : SubS σ σ2) : Weak G env σ env2 σ2 := Weak.drop he.mem hs.mem

/-- a loop: 'kenv', 'kst' stay; 'chg', 'chs' hang on the ghost -/
theorem A.loopK {α : Type} (kenv : Env) (kst : Sto) (chg : α → Env) (chs : α → Sto) (φ : α → Prop) (μ : α → Nat) (g0 : α) (hk : AllFind env kenv) (hks : SubS σ kst) (h0 : φ g0)
    (hw : AllFind env kenv → SubS σ kst → Weak G env σ (chg g0 ++ kenv) (chs g0 ++ kst))
    (step : ∀ g, φ g → acode G c (thenA (fun env' σ' => ∃ g', φ g' ∧ μ g' < μ g ∧ Weak G env' σ' (chg g' ++ kenv) (chs g' ++ kst)) Q) (chg g ++ kenv) (chs g ++ kst)) : acode G (.loop c) Q env σ :=
  A.loop (fun g => chg g ++ kenv) (fun g => chs g ++ kst) φ μ g0 h0 (hw hk hks) step

/-- ways that meet again -/
theorem A.join {α : Type} (kenv : Env) (kst : Sto) (chg : α → Env) (chs : α → Sto) (φ : α → Prop) (hk : AllFind env kenv) (hks : SubS σ kst)
    (h : acode G x (thenA (fun env' σ' => ∃ g, φ g ∧ Weak G env' σ' (chg g ++ kenv) (chs g ++ kst)) Q) env σ) (k : ∀ g, φ g → acode G y Q (chg g ++ kenv) (chs g ++ kst)) : acode G (.seq x y) Q env σ := by
  refine A.seq (h.mono ?_)
  intro e env' σ' hq
  cases e with
  | normal =>
    obtain ⟨g, hg, hw⟩ := hq
    exact A.weak hw (k g hg)
  | _ => exact hq
/-- a test of several parts: what it comes to -/
theorem A.joinB (d : Nat) (φ : Prop) (kenv : Env) (hk : AllFind env kenv) (h : acode G x (thenA (fun env' σ' => ∃ b, env'.get d = .bool b ∧ (b = true ↔ φ) ∧ SubS σ' σ ∧ AllFind env' kenv) Q) env σ)
    (k : ∀ b, (b = true ↔ φ) → acode G y Q ((d, .bool b) :: kenv) σ) : acode G (.seq x y) Q env σ := by
  refine A.seq (h.mono ?_)
  intro e env' σ' hq
  cases e with
  | normal =>
    obtain ⟨b, h1, h2, h3, h4⟩ := hq
    exact A.weak (Weak.of (env2 := (d, .bool b) :: kenv) ⟨by rw [h1]; exact .refl _, h4.sealT⟩ h3) (k b h2)
  | _ => exact hq

theorem A.reg {id : Nat} {ops : Array Oper} (l : List Nat) (hl : List.range ops.size = l) (hd : dstOk G.N ops = true) (h : Cert G ops ⟨false, [], []⟩ [] l env σ (fun env σ => Q .normal env σ)) : acode G (.region id ops false) Q env σ := by
  subst hl; exact A.region hd h
end rules

section steps
variable {G : Gl} {ops : Array Oper} {s : Sch} {log : List (Nat × List Nat)} {i : Nat} {l : List Nat} {env : Env} {σ : Sto} {K : Env → Sto → Prop} {o : Oper} {av : AV}
theorem C.splitAt (dj : Nat) {p : Bool} (hp : env.get dj = .bool p) (h1 : p = true → Cert G ops s log l env σ K) (h2 : p = false → Cert G ops s log l env σ K) : Cert G ops s log l env σ K := C.split p h1 h2
end steps

section ops
variable {G : Gl} {o : Oper} {env : Env} {σ : Sto} {a : AV}
theorem Z.move {x : Operand} (h : o.op = .move x) (hx : env.evo x = some a) : Yields G o env.ev σ [] [] a := by rw [← Env.evo_ev hx]; exact Y.move h
theorem Z.assign {x : Operand} (h : o.op = .assign x) (hx : env.evo x = some a) : Yields G o env.ev σ [] [] a := by rw [← Env.evo_ev hx]; exact Y.assign h
theorem Z.pickT {c x y : Operand} {p : Bool} (h : o.op = .pick c x y) (hc : env.ev c = .bool p) (hp : p = true) (hx : env.evo x = some a) : Yields G o env.ev σ [] [] a := by rw [← Env.evo_ev hx]; exact Y.pickT h hc hp
theorem Z.pickF {c x y : Operand} {p : Bool} (h : o.op = .pick c x y) (hc : env.ev c = .bool p) (hp : p = false) (hx : env.evo y = some a) : Yields G o env.ev σ [] [] a := by rw [← Env.evo_ev hx]; exact Y.pickF h hc hp
theorem Z.alloc {T d : Nat} {zs : List Value} {cs : List AV} (h : o.op = .alloc T) (hz : ∀ w, ∃ z, (zeroValue T).run G.P w = .ok z w ∧ z.cells = zs.toArray) (hc : avOfL zs = cs) (hi : G.ids.contains d = false) :
    Yields G o env.ev ((d, .cells T cs) :: σ) [d] [d] (.ptr d 0) := by subst hc; exact Y.alloc h hz hi
theorem Z.box {T d : Nat} {x : Operand} {cs : List AV} (h : o.op = .box T x) (hx : env.evo x = some a) (hf : a.flat = true) (hc : cellsO a = some cs) (hr : a.refs (Nat.beq d) = false) (hi : G.ids.contains d = false) :
    Yields G o env.ev ((d, .cells T cs) :: σ) [d] [d] (.ptr d 0) := Y.box h (Env.evo_ev hx) hf (cellsO_eq hc) hr hi
theorem Z.loadP {T T' : TypeId} {x : Operand} {n d p : Nat} {ag : Bool} {cs : List AV} (h : o.op = .load T x) (hx : env.ev x = .ptr d p) (hT : TyS G.P T n ag) (hd : σ.get d = some (.cells T' cs)) (h0 : (ag || Nat.blt 0 n) = true) (hn : Nat.ble (p + n) cs.length = true) (ha : ldO ag n (cs.drop p) = some a) :
    Yields G o env.ev σ [] [d] a := by rw [← ldO_eq ha]; exact Y.loadP h hx hd hT h0 hn
theorem Z.loadL {T : TypeId} {x : Operand} {n : Nat} {ag : Bool} {cs : List AV} (h : o.op = .load T x) (hx : env.ev x = .lptr cs) (hT : TyS G.P T n ag) (h0 : (ag || Nat.blt 0 n) = true) (hn : Nat.ble n cs.length = true) (ha : ldO ag n cs = some a) :
    Yields G o env.ev σ [] [] a := by rw [← ldO_eq ha]; exact Y.loadL h hx hT h0 hn
theorem Z.build {T : TypeId} {parts : Array (Nat × Operand)} {zs : List Value} {pl : List (Nat × Nat)} {ps : List (Nat × AV)} {cs : List AV} (h : o.op = .build T parts) (hT : StrS G.P T zs pl) (hp : env.evoP parts.toList = some ps)
    (hf : fillO pl (avOfL zs) ps = some cs) : Yields G o env.ev σ [] [] (.agg cs) := Y.build h hT (by rw [Env.evoP_ev hp]; exact fillO_eq pl hf)
theorem Z.buildSlice {T E sz len : Nat} {parts : Array (Nat × Operand)} {zs : List Value} {ps : List (Nat × AV)} {xs : List (List AV)} (h : o.op = .buildSlice T len parts) (hT : SliS G.P T E sz zs) (hl : parts.size = len) (hs : (Nat.ble (len * sz) 65536 && Nat.ble len 65536) = true)
    (hp : env.evoP parts.toList = some ps) (hf : fillAllO sz 0 ps = some xs) (hc : closedL xs.flatten = true) : Yields G o env.ev σ [] [] (.lst true xs) :=
  Y.buildSlice h hT hl (by simpa using hs) (by rw [Env.evoP_ev hp]; exact fillAllO_eq sz hf) hc
theorem Z.makeFunc {f : FuncId} {cap : Array Operand} {l : List AV} (h : o.op = .makeFunc (.func f) #[] cap) (hl : env.evoL cap.toList = some l) : Yields G o env.ev σ [] [] (.fn f l) := by
  rw [← Env.evoL_ev hl]; exact Y.makeFunc h
theorem Z.field {T f off n : Nat} {ag : Bool} {x : Operand} {cs : List AV} (h : o.op = .field T x f) (hx : env.ev x = .agg cs) (hT : PartS G.P T f off n ag) (hn : Nat.ble (off + n) cs.length = true) (ha : ldO ag n (cs.drop off) = some a) : Yields G o env.ev σ [] [] a := by
  rw [← ldO_eq ha]; exact Y.field h hx hT hn
theorem Z.call {fo : Operand} {args : Array Operand} {k : Array TypeId} {f : FuncId} {cap avs ps : List AV} {σs σc : Sto} {r : AV} (h : o.op = .call ⟨.value fo, args, k⟩) (hf : env.ev fo = .fn f cap)
    (hcall : ∀ (args : Array Value) (w : World), (callFunc f args).run G.P w = .ok (.enter f args) w) (hro : RO G.P f σc avs r) (hp : env.evoL args.toList = some ps) (ha : SealL σs (ps ++ cap) avs) (hs : SubS σ σs) (hc : SubS σs σc)
    (hr : r.closed = true) (hcc : σc.clean (fun d => !(σc.ids ++ []).contains d) = true) : Yields G o env.ev σ [] σs.ids r :=
  Y.call h hf hcall hs.mem (by rw [Env.evoL_ev hp]; exact ha) hc.mem hro hr hcc
theorem Z.dcall {fo : Operand} {args : Array Operand} {k : Array TypeId} {f : FuncId} {cap avs ps : List AV} {σc : Sto} {Post : AV → Sto → Prop} (news : List Nat) (h : o.op = .call ⟨.value fo, args, k⟩) (hf : env.ev fo = .fn f cap)
    (hcall : ∀ (args : Array Value) (w : World), (callFunc f args).run G.P w = .ok (.enter f args) w) (hro : SCalls G.P f σc avs Post) (hp : env.evoL args.toList = some ps) (ha : SealL σ (ps ++ cap) avs) (hs : SubS σ σc)
    (hn : news.all (fun d => !G.ids.contains d && (σ.get d).isNone) = true) (hcl : (σ.minus σc.ids).clean news.contains = true)
    (hok : ∀ r σ2, Post r σ2 → r.refs (fun d => !(σc.ids ++ news).contains d) = false ∧ σ2.clean (fun d => !(σc.ids ++ news).contains d) = true) :
    Does G o env.ev σ (σc.ids ++ news) news (fun r σ' => ∃ σ2, Post r σ2 ∧ σ' = σ2 ++ σ.minus σc.ids) :=
  D.call news h hf hcall hs.mem (by rw [Env.evoL_ev hp]; exact ha) hro hn hcl hok
theorem Z.storeP {T T' d p n : Nat} {ag : Bool} {x y : Operand} {cs ca cs' : List AV} (h : o.op = .store T x y) (hx : env.ev x = .ptr d p) (hT : TyS G.P T n ag) (hy : env.evo y = some a) (hd : σ.get d = some (.cells T' cs))
    (hf : a.flat = true) (hca : cellsO a = some ca) (hn : Nat.beq ca.length n = true) (hl : Nat.ble (p + n) cs.length = true) (hs : spine (spliceA cs p ca) = some cs') :
    Does G o env.ev σ [d] [] (fun r σ' => r = .undef ∧ σ' = σ.set d (.cells T' cs')) := by
  rw [← spine_eq hs, ← cellsO_eq hca]
  exact D.storeP h hx (Env.evo_ev hy) hd hT.size hf (by rw [cellsO_eq hca]; simpa using hn) (by simpa using hl)

theorem Z.indexL {α : Type} [Inhabited α] {T E sz : Nat} {x y : Operand} {k : IntKind} {i : Int} {f : Bool} (rs : List α) (enc : α → List AV) (h : o.op = .indexAddr T x y) (hx : env.ev x = .lst f (rs.map enc)) (hy : env.ev y = .int k i) (hT : SlS G.P T E sz)
    (hz : ∀ r, (enc r).length = sz) (hi : 0 ≤ i ∧ i < rs.length) : Yields G o env.ev σ [] [] (.lptr (enc (el rs i))) := Y.indexL rs enc h hx hy hT hz hi
theorem inK_i64 {n : Int} (h1 : -9223372036854775808 ≤ n) (h2 : n ≤ 9223372036854775807) : inK .i64 n := by
  unfold inK; rw [IntKind.wrap_i64]; omega

/-! what a call hands back -/
theorem ret_ro {fn : Func} {R x r : AV} (hx : ResL G env (σ.freeze σ.ids) fn.results.toList x) (hs : Seal (σ.freeze σ.ids) x r) (h : r = R) : retPost G fn (fun a σ' => a = R ∧ σ' = []) .ret env σ :=
  ⟨σ.ids, x, r, [], hx, hs, fun _ h => by simp at h, h, rfl⟩
theorem ret_ro' {fn : Func} {R x r : AV} (hx : ResL G env (σ.freeze σ.ids) fn.results.toList x) (hs : Seal (σ.freeze σ.ids) x r) (h : r = R) : retPost G fn (fun a σ' => a = R ∧ σ' = []) .normal env σ :=
  ⟨σ.ids, x, r, [], hx, hs, fun _ h => by simp at h, h, rfl⟩
theorem ret_st {fn : Func} {Post : AV → Sto → Prop} {x r : AV} (fz : List Nat) (σ2 : Sto) (hx : ResL G env (σ.freeze fz) fn.results.toList x) (hs : Seal (σ.freeze fz) x r) (hσ : SubS (σ.freeze fz) σ2) (h : Post r σ2) : retPost G fn Post .ret env σ :=
  ⟨fz, x, r, σ2, hx, hs, hσ.mem, h⟩
theorem ret_st' {fn : Func} {Post : AV → Sto → Prop} {x r : AV} (fz : List Nat) (σ2 : Sto) (hx : ResL G env (σ.freeze fz) fn.results.toList x) (hs : Seal (σ.freeze fz) x r) (hσ : SubS (σ.freeze fz) σ2) (h : Post r σ2) : retPost G fn Post .normal env σ :=
  ⟨fz, x, r, σ2, hx, hs, hσ.mem, h⟩
theorem RV.tmp {t : Nat} {a : AV} (h : env.find t = some a) : ResV G env σ (.tmp t) a := by rw [← Env.find_get h]; exact .tmp t
theorem RV.cell {a T d T' n : Nat} {ag : Bool} {cs : List AV} {r : AV} (hT : TyS G.P T n ag) (ha : env.get a = .ptr d 0) (hd : σ.get d = some (.cells T' cs)) (hn : Nat.beq cs.length n = true) (h0 : (ag || Nat.blt 0 n) = true) (hr : ldO ag n cs = some r) : ResV G env σ (.cell a T) r := by
  rw [← ldO_eq hr]; exact .cell a T d T' n ag cs ha hd hT (by simpa using hn) (fun e => by subst e; simpa using h0)
end ops
end Go.Proofs.Ytggbjbcgfelgiaa
