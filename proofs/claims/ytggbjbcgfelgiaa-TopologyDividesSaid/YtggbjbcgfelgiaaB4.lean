/- What is reckoned of an operation with a hint, and that it holds. No condition but those that stand in each. -/
import Derived.Test.YtggbjbcgfelgiaaB3
namespace Go.Proofs.Ytggbjbcgfelgiaa
set_option linter.all false
open Go

def argsE (env : Env) (c : Call) : Option (FuncId × List AV) := match c.callee with
  | .value fo => (match env.evo fo with
    | some (.fn f cap) => (match env.evoL c.args.toList with | none => none | some ps => some (f, ps ++ cap))
    | _ => none)
  | _ => none
theorem argsE_ok {env : Env} {c : Call} {f : FuncId} {as : List AV} (h : argsE env c = some (f, as)) : ∃ fo args k cap ps, c = ⟨.value fo, args, k⟩ ∧ env.ev fo = .fn f cap ∧ env.evoL args.toList = some ps ∧ as = ps ++ cap := by
  obtain ⟨cl, args, k⟩ := c
  simp only [argsE] at h
  split at h
  · rename_i fo
    split at h
    · rename_i f' cap hf
      split at h
      · cases h
      · rename_i ps hp; cases h
        exact ⟨fo, args, k, cap, ps, rfl, Env.evo_ev hf, hp, rfl⟩
    · cases h
  · cases h
def argsF (env : Env) (c : Call) : Option (FuncId × List AV × List AV) := match c.callee with
  | .value fo => (match env.evo fo with
    | some (.cfn f cap) => (match env.evoL c.args.toList with | none => none | some ps => some (f, ps, cap))
    | _ => none)
  | _ => none
theorem argsF_ok {env : Env} {c : Call} {f : FuncId} {as cp : List AV} (h : argsF env c = some (f, as, cp)) : ∃ fo args k, c = ⟨.value fo, args, k⟩ ∧ env.ev fo = .cfn f cp ∧ env.evoL args.toList = some as := by
  obtain ⟨cl, args, k⟩ := c
  simp only [argsF] at h
  split at h
  · rename_i fo
    split at h
    · rename_i f' cap hf
      split at h
      · cases h
      · rename_i ps hp; cases h
        exact ⟨fo, args, k, rfl, Env.evo_ev hf, hp⟩
    · cases h
  · cases h
/-- a function value that is handed over -/
def topc : AV → Option AV
  | .fn f l => bif closedL l then some (.cfn f l) else none
  | a => some a
theorem topc_ok {σ : Sto} {a b c : AV} (h : Seal σ a b) (hb : topc b = some c) : Seal σ a c := by
  cases b <;> simp only [topc, Option.some.injEq] at hb <;> first | (subst hb; exact h) | skip
  rename_i f l
  cases hc : closedL l with
  | false => rw [hc] at hb; cases hb
  | true => rw [hc] at hb; cases hb; exact .cfn h hc
/-- the arguments of a call, sealed -/
def sealA (σ : Sto) : Nat → List AV → Option (List AV)
  | _, [] => some []
  | m, x :: r => match (bif Nat.beq (m % 2) 1 then some x else match sealE [] σ x with | none => none | some a => topc a) with
    | none => none
    | some a => match sealA σ (m / 2) r with
      | none => none
      | some l => some (a :: l)
theorem sealA_ok {σ : Sto} : ∀ {m : Nat} {a b : List AV}, sealA σ m a = some b → SealL σ a b
  | m, [], b, h => by simp only [sealA, Option.some.injEq] at h; subst h; exact .nil
  | m, x :: r, b, h => by
    simp only [sealA] at h
    split at h
    · cases h
    · rename_i a ha
      split at h
      · cases h
      · rename_i l hl
        simp only [Option.some.injEq] at h; subst h
        refine .cons ?_ (sealA_ok hl)
        cases hb : Nat.beq (m % 2) 1 with
        | true => rw [hb] at ha; cases ha; exact .refl _
        | false =>
          rw [hb] at ha
          simp only [cond_false] at ha
          split at ha
          · cases ha
          · rename_i a0 ha0; exact topc_ok (sealE_ok ha0) ha
theorem SealL.append {σ : Sto} : ∀ {a b c d : List AV}, SealL σ a b → SealL σ c d → SealL σ (a ++ c) (b ++ d)
  | _, _, _, _, .nil, h => h
  | _, _, _, _, .cons h t, h2 => .cons h (SealL.append t h2)
def optI (env : Env) (d : Int) : Option Operand → Option Int
  | none => some d
  | some x => match env.evo x with | some (.int _ n) => some n | _ => none
theorem optI_lo {env : Env} {x : Option Operand} {n : Int} (h : optI env 0 x = some n) : isIntO env.ev x ∧ loOf env.ev x = n := by
  cases x with
  | none => simp only [optI, Option.some.injEq] at h; exact ⟨trivial, h⟩
  | some x =>
    simp only [optI] at h
    split at h
    · rename_i k m hm; cases h; exact ⟨⟨k, _, Env.evo_ev hm⟩, by simp only [loOf, Env.evo_ev hm]⟩
    · cases h
theorem optI_hi {env : Env} {l : Nat} {x : Option Operand} {n : Int} (h : optI env (l : Int) x = some n) : isIntO env.ev x ∧ hiOf env.ev l x = n := by
  cases x with
  | none => simp only [optI, Option.some.injEq] at h; exact ⟨trivial, h⟩
  | some x =>
    simp only [optI] at h
    split at h
    · rename_i k m hm; cases h; exact ⟨⟨k, _, Env.evo_ev hm⟩, by simp only [hiOf, Env.evo_ev hm]⟩
    · cases h

def stE (env : Env) (σ : Sto) (tb : Tb) : Op → Option Stp
  | .store T x y => match tb.get T with
    | none => none
    | some i => match env.evo x with
      | some (.ptr d p) => (match env.evo y with
        | none => none
        | some a => match σ.get d with
          | some (.cells T' cs) => (match cellsO a with
            | none => none
            | some ca => bif a.flat && Nat.beq ca.length i.sz && Nat.ble (p + i.sz) cs.length then (match spine (spliceA cs p ca) with
              | none => none
              | some cs' => some (.e [d] [] .undef (σ.set d (.cells T' cs')))) else none)
          | _ => none)
      | _ => none
  | _ => none
def alE (tb : Tb) (ids : List Nat) (env : Env) (d : Nat) : Op → Option Stp
  | .alloc T => match tb.get T with
    | some ⟨_, _, some zs, _⟩ => (match spine (avOfL zs) with | none => none | some cs => bif !ids.contains d then some (.v d (.cells T cs) (.ptr d 0)) else none)
    | _ => none
  | .box T x => match env.evo x with
    | none => none
    | some a => match cellsO a with
      | none => none
      | some cs => bif a.flat && !a.refs (Nat.beq d) && !ids.contains d then some (.v d (.cells T cs) (.ptr d 0)) else none
  | .buildSlice T len parts => match tb.get T with
    | some ⟨_, _, _, .slice E sz _ _⟩ => bif Nat.beq parts.size len && (Nat.ble (len * sz) 65536 && Nat.ble len 65536) && !ids.contains d then (match env.evoP parts.toList with
      | none => none
      | some ps => match fillAllO sz 0 ps with
        | none => none
        | some xs => bif closedL xs.flatten then some (.v d (.slice E sz xs 0 false) (.own d)) else none) else none
    | _ => none
  | .makeMap T none => match tb.get T with
    | some ⟨_, _, _, .map K E _⟩ => bif !ids.contains d then some (.v d (.map K E []) (.mapv d)) else none
    | _ => none
  | _ => none
def ixE (tb : Tb) (env : Env) (σ : Sto) (sz : Nat) (row : List AV) : Op → Option (Stp × Obs)
  | .indexAddr T x y => match tb.get T with
    | some ⟨_, _, _, .slice _ sz' _ _⟩ => (match env.evo y with
      | some (.int _ i) => (match env.evo x with
        | some (.lst _ xs) => (match spine row with
          | none => none
          | some r => bif Nat.beq sz' sz then some (.y [] (.lptr r), ([.lst false xs, .int .i64 i], [])) else none)
        | some (.own d) => (match σ.get d with
          | some (.slice _ sz'' xs _ _) => bif Nat.beq sz' sz && Nat.beq sz'' sz then some (.y [d] (.ptr d (i.toNat * sz)), ([.lst false xs, .int .i64 i], [])) else none
          | _ => none)
        | _ => none)
      | _ => none)
    | _ => none
  | _ => none
def loE (tb : Tb) (env : Env) (σ : Sto) (d sz off : Nat) (row : List AV) : Op → Option (Stp × Obs)
  | .load T x => match tb.get T with
    | none => none
    | some i => match env.evo x with
      | some (.ptr d' p) => (match σ.get d with
        | some (.slice _ sz' xs _ _) => bif Nat.beq d' d && Nat.beq sz' sz && (i.ag || Nat.blt 0 i.sz) && Nat.ble (off + i.sz) sz then (match ldO i.ag i.sz (row.drop off) with
          | none => none
          | some a => some (.y [d] a, ([.lst false xs, .ptr d' p], []))) else none
        | _ => none)
      | _ => none
  | _ => none
def soE (tb : Tb) (env : Env) (σ : Sto) (d sz off k : Nat) (zs : List (List AV)) : Op → Option (Stp × Obs)
  | .store T x y => match tb.get T with
    | none => none
    | some i => match env.evo x with
      | some (.ptr d' p) => (match env.evo y with
        | none => none
        | some a => match cellsO a with
          | none => none
          | some ca => match σ.get d with
            | some (.slice T' sz' xs k' _) => bif Nat.beq d' d && Nat.beq sz' sz && Nat.beq k' k && a.flat && closedL ca && Nat.beq ca.length i.sz && Nat.ble (off + i.sz) sz then
                some (.e [d] [] .undef (σ.set d (.slice T' sz' zs k' false)), ([.lst false xs, .ptr d' p, .agg ca], [])) else none
            | _ => none)
      | _ => none
  | _ => none
mutual
def AV.owns : AV → List Nat
  | .own d => [d]
  | .agg cs => ownsL cs
  | .tup cs => ownsL cs
  | .fn _ cs => ownsL cs
  | _ => []
def ownsL : List AV → List Nat
  | [] => []
  | x :: r => x.owns ++ ownsL r
end
def rfE (env : Env) (σ : Sto) (r : AV) : Op → Option (Stp × Obs)
  | .call c => match argsF env c with
    | none => none
    | some (f, as, cp) => match σ.at (ownsL as) with
      | none => none
      | some σa => match sealA σa 0 as with
        | none => none
        | some avs => bif r.closed then some (.y σa.ids r, (.fn f cp :: avs, [])) else none
  | _ => none
def roE (env : Env) (raw : Nat) (σ σs : Sto) (r : AV) : Op → Option (Stp × Obs)
  | .call c => match argsE env c with
    | none => none
    | some (f, as) => match σ.at (σs.ids ++ ownsL as) with
      | none => none
      | some σa => match sealA σa raw as with
        | none => none
        | some avs => match σa.at σs.ids with
          | none => none
          | some σs' => bif r.closed && σs.clean (fun d => !(σs.ids ++ []).contains d) then some (.y σa.ids r, (.fn f [] :: avs, σs')) else none
  | _ => none
def leE (env : Env) (σ : Sto) (ds : List Nat) (r : AV) : Op → Option (Stp × Obs)
  | .call c => match argsE env c with
    | none => none
    | some (f, as) => match σ.at ds with
      | none => none
      | some σs => match deepL (deepC 9 σs) as with
        | none => none
        | some avs => bif r.scal then some (.y σs.ids r, (.fn f [] :: avs, [])) else none
  | _ => none
def dcE (ids : List Nat) (env : Env) (σ σc : Sto) (news : List Nat) (r : AV) (σ2 : Sto) : Op → Option (Stp × Obs)
  | .call c => match argsE env c with
    | none => none
    | some (f, as) => match sealEL σc.ids σ as with
      | none => none
      | some avs => match σ.at σc.ids with
        | none => none
        | some σc' => bif news.all (fun d => !ids.contains d && (σ.get d).isNone) && (σ.minus σc.ids).clean news.contains && !r.refs (fun d => !(σc.ids ++ news).contains d) && σ2.clean (fun d => !(σc.ids ++ news).contains d) then
            some (.e (σc.ids ++ news) news r (σ2 ++ σ.minus σc.ids), (.fn f [] :: avs, σc')) else none
  | _ => none
def apE (tb : Tb) (ids : List Nat) (env : Env) (σ : Sto) (d2 sz bytes : Nat) (zs : List (List AV)) : Op → Option (Stp × Obs)
  | .call c => match c.callee with
    | .builtin b => (match b with
      | .append => (match c.args.toList with
        | [s, x] => (match c.argTypes.toList with
          | [T, T2] => (match tb.get T with
            | some ⟨_, _, _, .slice E sz' bytes' _⟩ => bif Nat.beq T T2 && Nat.beq sz' sz && Nat.beq bytes' bytes && !ids.contains d2 then (match env.evo x with
              | none => none
              | some ax => match sealE [] σ ax with
                | some (.lst f ys) => (match env.evo s with
                  | some (.own d) => (match σ.get d with
                    | some (.slice T' sz'' xs k _) => bif Nat.beq T' E && Nat.beq sz'' sz && (σ.minus [d]).clean [d2].contains then some (.e [d, d2] [d2] (.own d2) ((d2, .slice T' sz'' zs k false) :: σ.minus [d]), ([.lst false xs, .lst false ys], [])) else none
                    | _ => none)
                  | some .nils => bif σ.clean [d2].contains then some (.e [d2] [d2] (.own d2) ((d2, .slice E sz' zs 0 false) :: σ), ([.lst false [], .lst false ys], [])) else none
                  | some (.lst true xs) => bif σ.clean [d2].contains && Nat.blt 0 ys.length then some (.e [d2] [d2] (.own d2) ((d2, .slice E sz' zs 0 false) :: σ), ([.lst false xs, .lst false ys], [])) else none
                  | _ => none)
                | _ => none) else none
            | _ => none)
          | _ => none)
        | _ => none)
      | _ => none)
    | _ => none
  | _ => none
def ownOf : AV → List Nat
  | .own d => [d]
  | _ => []
def slE (tb : Tb) (env : Env) (σ : Sto) (sz : Nat) (zs : List (List AV)) : Op → Option (Stp × Obs)
  | .slice T x lo hi none => match tb.get T with
    | some ⟨_, _, _, .slice _ sz' _ _⟩ => (match env.evo x with
      | none => none
      | some ax => match sealE [] σ ax with
        | some (.lst f xs) => (match optI env 0 lo with
          | none => none
          | some a => match optI env (xs.length : Int) hi with
            | none => none
            | some b => bif Nat.beq sz' sz then some (.y (ownOf ax) (.lst false zs), ([.lst false xs, .int .i64 a, .int .i64 b], [])) else none)
        | _ => none)
    | _ => none
  | _ => none
def qrE (env : Env) : Op → Option (Stp × Obs)
  | .binOp op _ x y _ => match env.evo x with
    | some (.int k m) => (match env.evo y with
      | some (.int k' n) => bif decide (k = k') then (match op with
        | .quo => some (.y [] (.int k (k.wrap (m.tdiv n))), ([.int .i64 n], []))
        | .rem => some (.y [] (.int k (m.tmod n)), ([.int .i64 n], []))
        | _ => none) else none
      | _ => none)
    | _ => none
  | _ => none
def shE (env : Env) : Op → Option (Stp × Obs)
  | .binOp op _ x y _ => match env.evo x with
    | some (.int k m) => (match env.evo y with
      | some (.int _ n) => (match op with
        | .shl => some (.y [] (.int k (k.wrap (m * 2 ^ min n.toNat k.bits))), ([.int .i64 n], []))
        | .shr => some (.y [] (.int k (m.fdiv (2 ^ min n.toNat k.bits))), ([.int .i64 n], []))
        | _ => none)
      | _ => none)
    | _ => none
  | _ => none
def isE2 (tb : Tb) (env : Env) (b : UInt8) : Op → Option (Stp × Obs)
  | .index T x y => match tb.get T with
    | some ⟨_, _, _, .str⟩ => (match env.evo x with
      | some (.str s) => (match env.evo y with
        | some (.int _ n) => some (.y [] (.int .u8 (b.toNat : Int)), ([.str s, .int .i64 n], []))
        | _ => none)
      | _ => none)
    | _ => none
  | _ => none
def lkE (tb : Tb) (env : Env) (σ : Sto) (E : Nat) (k : IntKind) (a : AV) (b : Bool) : Op → Option (Stp × Obs)
  | .lookup T x y ok => match tb.get T with
    | some ⟨_, _, _, .map K E' k'⟩ => (match env.evo x with
      | some (.mapv d) => (match env.evo y with
        | some (.int k2 n) => (match σ.get d with
          | some (.map K2 E2 ents) => bif Nat.beq E' E && decide (k' = k) && decide (k2 = k) && Nat.beq K2 K && Nat.beq E2 E' then some (.y [d] (bif ok then .tup [a, .bool b] else a), ([.int .i64 n], [(0, .map 0 0 ents)])) else none
          | _ => none)
        | _ => none)
      | _ => none)
    | _ => none
  | _ => none
def muP (tb : Tb) (env : Env) (σ : Sto) (k : IntKind) (ents' : List (AV × AV)) (T : Nat) (x y z : Operand) : Option (Stp × Obs) := match tb.get T with
    | some ⟨_, _, _, .map K E' k'⟩ => (match env.evo x with
      | some (.mapv d) => (match env.evo y with
        | some (.int k2 n) => (match env.evo z with
          | some v => (match σ.get d with
            | some (.map K2 E2 ents) => bif decide (k' = k) && decide (k2 = k) && Nat.beq K2 K && Nat.beq E2 E' then some (.e [d] [] .undef (σ.set d (.map K2 E2 ents')), ([.int .i64 n, v], [(0, .map 0 0 ents)])) else none
            | _ => none)
          | _ => none)
        | _ => none)
      | _ => none)
    | _ => none
def muE (tb : Tb) (env : Env) (σ : Sto) (k : IntKind) (ents' : List (AV × AV)) : Op → Option (Stp × Obs)
  | .mapUpdate T x y z => muP tb env σ k ents' T x y z
  | .insert T x y z => muP tb env σ k ents' T x y z
  | _ => none
def lmE (tb : Tb) (env : Env) (σ : Sto) (k : IntKind) (n : Int) : Op → Option (Stp × Obs)
  | .call c => match c.callee with
    | .builtin b => (match b with
      | .len => (match c.args.toList with
        | [x] => (match c.argTypes.toList with
          | [T] => (match tb.get T with
            | some ⟨_, _, _, .map K E' k'⟩ => (match env.evo x with
              | some (.mapv d) => (match σ.get d with
                | some (.map K2 E2 ents) => bif decide (k' = k) && Nat.beq K2 K && Nat.beq E2 E' then some (.y [d] (.int .i64 n), ([], [(0, .map 0 0 ents)])) else none
                | _ => none)
              | _ => none)
            | _ => none)
          | _ => none)
        | _ => none)
      | _ => none)
    | _ => none
  | _ => none
def sqE (env : Env) (neg : Bool) (T : Nat) (r : Bool) : Op → Option (Stp × Obs)
  | .binOp op T' x y _ => match env.evo x with
    | none => none
    | some a => match env.evo y with
      | none => none
      | some b => bif a.plain && b.plain && Nat.beq T' T then (match op with
        | .eql => bif neg then none else some (.y [] (.bool r), ([a, b], []))
        | .neq => bif neg then some (.y [] (.bool r), ([a, b], [])) else none
        | _ => none) else none
  | _ => none
def stepH {P : Program} (tb : Tb) (ids : List Nat) (o : Oper) (env : Env) (σ : Sto) : Hint P → Option (Stp × Obs)
  | .au => match auY tb env σ o.op with
    | some (R, av) => some (.y R av, ([], []))
    | none => match stE env σ tb o.op with
      | some s => some (s, ([], []))
      | none => none
  | .al d => match alE tb ids env d o.op with | some s => some (s, ([], [])) | none => none
  | .to h _ b _ => match stepH tb ids o env σ h with
    | some (.y R av, ob) => some (.y R b, (av :: ob.1, ob.2))
    | _ => none
  | .ix sz _ _ row _ => ixE tb env σ sz row o.op
  | .lo d sz _ _ off row _ => loE tb env σ d sz off row o.op
  | .so d sz _ _ off _ zs _ k _ => soE tb env σ d sz off k zs o.op
  | .rf _ _ _ r _ _ => rfE env σ r o.op
  | .ro raw _ σs _ r _ _ => roE env raw σ σs r o.op
  | .le ds _ _ r _ _ => leE env σ ds r o.op
  | .dc news _ σc _ r σ2 _ _ => dcE ids env σ σc news r σ2 o.op
  | .ap d2 sz bytes _ _ zs _ => apE tb ids env σ d2 sz bytes zs o.op
  | .sl sz _ _ _ zs _ => slE tb env σ sz zs o.op
  | .qr _ _ => qrE env o.op
  | .sh _ _ => shE env o.op
  | .is _ _ b _ => isE2 tb env b o.op
  | .lk E k _ _ a b _ => lkE tb env σ E k a b o.op
  | .mu k _ _ _ ents' _ => muE tb env σ k ents' o.op
  | .lm k _ n _ => lmE tb env σ k n o.op
  | .sq neg T _ _ r _ => sqE env neg T r o.op

def StOk (G : Gl) (o : Oper) (env : Env) (σ : Sto) : Stp → Prop
  | .y R av => Yields G o env.ev σ [] R av
  | .v d ob av => G.ids.contains d = false ∧ Yields G o env.ev ((d, ob) :: σ) [d] [d] av
  | .e M news av σ' => Does G o env.ev σ M news (fun a s => a = av ∧ s = σ') ∧ news.all (fun d => !G.ids.contains d) = true

theorem Does.mono {G : Gl} {o : Oper} {ev : Operand → AV} {σ : Sto} {M news : List Nat} {Φ Φ' : AV → Sto → Prop} (h : Does G o ev σ M news Φ) (hp : ∀ a s, Φ a s → Φ' a s) : Does G o ev σ M news Φ' := by
  intro cx I β w ρ hw hop
  have := h cx I β w ρ hw hop
  generalize (execOp ρ o).run G.P w = r at this
  cases r with
  | halt x w' => exact this
  | ok n w' =>
    cases n <;> simp only [UponV] at this ⊢
    · obtain ⟨a, s, I', β', q, q'⟩ := this; exact ⟨a, s, I', β', hp _ _ q, q'⟩
    · obtain ⟨a, s, I', β', q, q'⟩ := this; exact ⟨a, s, I', β', hp _ _ q, q'⟩
    · exact Calls.mono this fun _ _ ⟨v, he, a, s, I', β', q, q'⟩ => ⟨v, he, a, s, I', β', hp _ _ q, q'⟩

section
variable {P : Program} {N : Nat} {ids : List Nat} {tb : Tb} {o : Oper} {env : Env} {σ : Sto}
theorem stE_ok (W : Wld P tb) {s : Stp} (h : stE env σ tb o.op = some s) : StOk ⟨P, N, ids⟩ o env σ s := by
  cases ho : o.op <;> rw [ho] at h <;> simp only [stE] at h
  case store T x y =>
    split at h
    · cases h
    · rename_i i hT
      have hk := (TbAll.get W.tys hT).ty
      split at h
      · rename_i d p hx
        split at h
        · cases h
        · rename_i a hy
          split at h
          · rename_i T' cs hd
            split at h
            · cases h
            · rename_i ca hca
              generalize hb : (a.flat && _ && _) = bb at h
              cases bb with
              | false => cases h
              | true =>
                simp only [cond_true] at h
                simp only [Bool.and_eq_true] at hb
                split at h
                · cases h
                · rename_i cs' hs; cases h
                  exact ⟨Z.storeP ho (Env.evo_ev hx) hk hy hd hb.1.1 hca hb.1.2 hb.2 hs, rfl⟩
          · cases h
      · cases h
  all_goals cases h
theorem alE_ok (W : Wld P tb) {d : Nat} {s : Stp} (h : alE tb ids env d o.op = some s) : StOk ⟨P, N, ids⟩ o env σ s := by
  cases ho : o.op <;> rw [ho] at h
  case alloc T =>
    simp only [alE] at h
    split at h
    · rename_i sz ag zs kd hT
      have hz := (TbAll.get W.tys hT).ze _ rfl
      split at h
      · cases h
      · rename_i cs hs
        cases hi : ids.contains d with
        | true => rw [hi] at h; cases h
        | false => rw [hi] at h; cases h; exact ⟨hi, Z.alloc ho hz (spine_eq hs) hi⟩
    · cases h
  case box T x =>
    simp only [alE] at h
    split at h
    · cases h
    · rename_i a hx
      split at h
      · cases h
      · rename_i cs hs
        generalize hb : (a.flat && _ && _) = bb at h
        cases bb with
        | false => cases h
        | true =>
          cases h
          simp only [Bool.and_eq_true, Bool.not_eq_true'] at hb
          exact ⟨hb.2, Z.box ho hx hb.1.1 hs hb.1.2 hb.2⟩
  case buildSlice T len parts =>
    simp only [alE] at h
    split at h
    · rename_i hT
      have hk := (TbAll.get W.tys hT).kd
      simp only [KdOk] at hk
      generalize hb : (Nat.beq parts.size len && _ && _) = bb at h
      cases bb with
      | false => cases h
      | true =>
        simp only [cond_true] at h
        simp only [Bool.and_eq_true, Bool.not_eq_true'] at hb
        split at h
        · cases h
        · rename_i ps hp
          split at h
          · cases h
          · rename_i xs hf
            cases hc : closedL xs.flatten with
            | false => rw [hc] at h; cases h
            | true =>
              rw [hc] at h; cases h
              exact ⟨hb.2, Y.buildSliceO ho hk.2.2 (by simpa using hb.1.1) (by simpa using hb.1.2) (by rw [Env.evoP_ev hp]; exact fillAllO_eq _ hf) hc hb.2⟩
    · cases h
  case makeMap T r =>
    cases r with
    | some r => simp only [alE] at h; cases h
    | none =>
      simp only [alE] at h
      split at h
      · rename_i hT
        cases hi : ids.contains d with
        | true => rw [hi] at h; cases h
        | false => rw [hi] at h; cases h; exact ⟨hi, Y.makeMap ho hi⟩
      · cases h
  all_goals (simp only [alE] at h; cases h)
theorem Y.indexG {G : Gl} {T E sz : Nat} {x y : Operand} {k : IntKind} {i : Int} {f : Bool} {ev : Operand → AV} (xs : List (List AV)) (h : o.op = .indexAddr T x y) (hx : ev x = .lst f xs) (hy : ev y = .int k i) (hT : SlS G.P T E sz)
    (hl : ∀ e ∈ xs, e.length = sz) (hi : 0 ≤ i ∧ i < xs.length) : Yields G o ev σ [] [] (.lptr (el xs i)) :=
  .pure fun σ' cx I β w ρ hR hw hop => by
    have h1 := hop x (by simp [h, Op.operands]); rw [hx] at h1
    have h2 := hop y (by simp [h, Op.operands]); rw [hy] at h2; have h2 := rep_int h2
    simp only [Rep, RepC] at h1
    obtain ⟨a, c, h1, h3, h4, _, h5⟩ := h1
    have hlt : i.toNat < xs.length := by omega
    rcases h5 with h5 | ⟨b, p, rfl, h5⟩
    · subst h5
      simp at hlt
    · have hrow := RepRows_at (sz := sz) _ p i.toNat hl h5 hlt
      have hget : xs.getD i.toNat [] = el xs i := by
        simp [List.getD_eq_getElem?_getD, hlt, el]
      rw [hget] at hrow
      refine ⟨.pointer (some ⟨b, p + i.toNat * sz, none⟩), ?_, by simp only [Rep, RepC]; exact ⟨b, _, rfl, hrow⟩⟩
      have e1 : ∀ w, (underlying T).run G.P w = .ok (.slice E) w := fun w => by simp [underlying, program, Sem.run, hT.und]
      simp [execOp, h, h1, h2, Instr.indexAt, asIntOf, e1, hi, hT.size, addr_add]
theorem ixE_ok (W : Wld P tb) {sz : Nat} {xs : List (List AV)} {i : Int} {row : List AV} (pf : Ix sz xs i row) {s : Stp} {ob : Obs} (h : ixE tb env σ sz row o.op = some (s, ob)) (he : ob = ([.lst false xs, .int .i64 i], [])) : StOk ⟨P, N, ids⟩ o env σ s := by
  obtain ⟨p1, p2, p3, p4⟩ := pf
  cases ho : o.op <;> rw [ho] at h
  case indexAddr T x y =>
    simp only [ixE] at h
    split at h
    · rename_i sz' _ _ hT
      have hk := (TbAll.get W.tys hT).kd
      simp only [KdOk] at hk
      split at h
      · rename_i k i' hy
        split at h
        · rename_i f xs' hx
          split at h
          · cases h
          · rename_i r hr
            cases hb : Nat.beq sz' sz with
            | false => rw [hb] at h; cases h
            | true =>
              rw [hb] at h; cases h
              simp only [Prod.mk.injEq, List.cons.injEq, AV.lst.injEq, AV.int.injEq, and_true, true_and] at he
              obtain ⟨rfl, rfl⟩ := he
              have := Nat.eq_of_beq_eq_true hb
              subst this
              simp only [StOk]
              rw [← spine_eq hr, ← p4]
              exact Y.indexG _ ho (Env.evo_ev hx) (Env.evo_ev hy) hk.1 p1 ⟨p2, p3⟩
        · rename_i d hx
          split at h
          · rename_i T'' sz'' xs'' k'' fz'' hd
            cases hb : (Nat.beq sz' sz && Nat.beq sz'' sz) with
            | false => rw [hb] at h; cases h
            | true =>
              rw [hb] at h; cases h
              rw [Bool.and_eq_true] at hb
              simp only [Prod.mk.injEq, List.cons.injEq, AV.lst.injEq, AV.int.injEq, and_true, true_and] at he
              obtain ⟨rfl, rfl⟩ := he
              have := Nat.eq_of_beq_eq_true hb.1
              subst this
              have := Nat.eq_of_beq_eq_true hb.2
              subst this
              exact Y.indexO _ id ho (Env.evo_ev hx) (Env.evo_ev hy) (by rw [lst_id]; exact hd) hk.1 ⟨p2, p3⟩
          · cases h
        · cases h
      · cases h
    · cases h
  all_goals (simp only [ixE] at h; cases h)
theorem loE_ok (W : Wld P tb) {d sz off : Nat} {xs : List (List AV)} {i : Int} {row : List AV} (pf : Ix sz xs i row) {s : Stp} {ob : Obs} (h : loE tb env σ d sz off row o.op = some (s, ob)) (he : ob = ([.lst false xs, .ptr d (i.toNat * sz + off)], [])) : StOk ⟨P, N, ids⟩ o env σ s := by
  obtain ⟨p1, p2, p3, p4⟩ := pf
  cases ho : o.op <;> rw [ho] at h
  case load T x =>
    simp only [loE] at h
    split at h
    · cases h
    · rename_i ti hT
      have hk := (TbAll.get W.tys hT).ty
      split at h
      · rename_i d' p hx
        split at h
        · rename_i T' sz' xs' k fz hd
          generalize hb : (Nat.beq d' d && _ && _ && _) = bb at h
          cases bb with
          | false => cases h
          | true =>
            simp only [cond_true] at h
            simp only [Bool.and_eq_true] at hb
            obtain ⟨⟨⟨b1, b2⟩, b3⟩, b4⟩ := hb
            split at h
            · cases h
            · rename_i a ha
              cases h
              simp only [Prod.mk.injEq, List.cons.injEq, AV.lst.injEq, AV.ptr.injEq, and_true, true_and] at he
              obtain ⟨rfl, rfl, rfl⟩ := he
              have := Nat.eq_of_beq_eq_true b2
              subst this
              exact Y.loadO (i := i) _ id ho (Env.evo_ev hx) (by rw [lst_id]; exact hd) rfl ⟨p2, p3⟩ hk b3 b4 (by rw [id_eq, p4]; exact ha)
        · cases h
      · cases h
  all_goals (simp only [loE] at h; cases h)
theorem soE_ok (W : Wld P tb) {d sz off k : Nat} {xs zs : List (List AV)} {i : Int} {ca : List AV} (pf : St sz xs i off ca zs) (hki : (k : Int) ≤ i) {s : Stp} {ob : Obs} (h : soE tb env σ d sz off k zs o.op = some (s, ob)) (he : ob = ([.lst false xs, .ptr d (i.toNat * sz + off), .agg ca], [])) : StOk ⟨P, N, ids⟩ o env σ s := by
  obtain ⟨⟨p1, p2, p3, _⟩, p4⟩ := pf
  cases ho : o.op <;> rw [ho] at h
  case store T x y =>
    simp only [soE] at h
    split at h
    · cases h
    · rename_i ti hT
      have hk := (TbAll.get W.tys hT).ty
      split at h
      · rename_i d' p hx
        split at h
        · cases h
        · rename_i a hy
          split at h
          · cases h
          · rename_i ca' hca
            split at h
            · rename_i T' sz' xs' k' fz hd
              generalize hb : (Nat.beq d' d && _ && _ && _ && _ && _ && _) = bb at h
              cases bb with
              | false => cases h
              | true =>
                simp only [cond_true] at h
                simp only [Bool.and_eq_true] at hb
                obtain ⟨⟨⟨⟨⟨⟨b1, b2⟩, b3⟩, b4⟩, b5⟩, b6⟩, b7⟩ := hb
                cases h
                simp only [Prod.mk.injEq, List.cons.injEq, AV.lst.injEq, AV.ptr.injEq, AV.agg.injEq, and_true, true_and] at he
                obtain ⟨rfl, ⟨rfl, rfl⟩, rfl⟩ := he
                have := Nat.eq_of_beq_eq_true b2
                subst this
                have := Nat.eq_of_beq_eq_true b3
                subst this
                have hD := D.storeO (G := ⟨P, N, ids⟩) (i := i) xs' id (spliceA (el xs' i) off ca') ho (Env.evo_ev hx) hy (by rw [lst_id]; exact hd) rfl ⟨p2, p3⟩ hki hk b4 hca b5 b6 b7 rfl
                rw [lst_id, ← p4] at hD
                exact ⟨hD, rfl⟩
            · cases h
      · cases h
  all_goals (simp only [soE] at h; cases h)
theorem roE_ok {raw : Nat} {f : FuncId} {σs : Sto} {avs : List AV} {r : AV} (pf : RO P f σs avs r) (hc : CallOk P f) {s : Stp} {ob : Obs} (h : roE env raw σ σs r o.op = some (s, ob)) (he : ob = (.fn f [] :: avs, σs)) : StOk ⟨P, N, ids⟩ o env σ s := by
  cases ho : o.op <;> rw [ho] at h
  case call c =>
    simp only [roE] at h
    split at h
    · cases h
    · rename_i f' as ha
      obtain ⟨fo, args, k, cap, ps, rfl, hf, hp, rfl⟩ := argsE_ok ha
      split at h
      · cases h
      · rename_i σa hat
        split at h
        · cases h
        · rename_i avs' hs
          split at h
          · cases h
          · rename_i σs' hat2
            generalize hb : (r.closed && _) = bb at h
            cases bb with
            | false => cases h
            | true =>
              rw [Bool.and_eq_true] at hb
              cases h
              simp only [Prod.mk.injEq, List.cons.injEq, AV.fn.injEq, and_true] at he
              obtain ⟨⟨rfl, rfl⟩, rfl⟩ := he
              exact Z.call (G := ⟨P, N, ids⟩) (σs := σa) (σc := σs') ho hf hc.h pf hp (sealA_ok hs) (Sto.at_sub hat).1 (Sto.at_sub hat2).1 hb.1 hb.2
  all_goals (simp only [roE] at h; cases h)
theorem rfE_ok {f : FuncId} {caps avs : List AV} {r : AV} (pf : RO P f [] (avs ++ caps) r) (hc : CallOk P f) {s : Stp} {ob : Obs} (h : rfE env σ r o.op = some (s, ob)) (he : ob = (.fn f caps :: avs, [])) : StOk ⟨P, N, ids⟩ o env σ s := by
  cases ho : o.op <;> rw [ho] at h
  case call c =>
    simp only [rfE] at h
    split at h
    · cases h
    · rename_i f' as cp ha
      obtain ⟨fo, args, k, rfl, hf, hp⟩ := argsF_ok ha
      split at h
      · cases h
      · rename_i σa hat
        split at h
        · cases h
        · rename_i avs' hs
          cases hb : r.closed with
          | false => rw [hb] at h; cases h
          | true =>
            rw [hb] at h
            cases h
            simp only [Prod.mk.injEq, List.cons.injEq, AV.fn.injEq, and_true] at he
            obtain ⟨⟨rfl, rfl⟩, rfl⟩ := he
            exact Y.callC (G := ⟨P, N, ids⟩) (σs := σa) ho hf hc.h (Sto.at_sub hat).1.mem (by rw [Env.evoL_ev hp]; exact sealA_ok hs) pf hb
  all_goals (simp only [rfE] at h; cases h)
theorem leE_ok {ds : List Nat} {f : FuncId} {avs : List AV} {r : AV} (pf : RO P f [] avs r) (hc : CallOk P f) {s : Stp} {ob : Obs} (h : leE env σ ds r o.op = some (s, ob)) (he : ob = (.fn f [] :: avs, [])) : StOk ⟨P, N, ids⟩ o env σ s := by
  cases ho : o.op <;> rw [ho] at h
  case call c =>
    simp only [leE] at h
    split at h
    · cases h
    · rename_i f' as ha
      obtain ⟨fo, args, k, cap, ps, rfl, hf, hp, rfl⟩ := argsE_ok ha
      split at h
      · cases h
      · rename_i σa hat
        split at h
        · cases h
        · rename_i avs' hs
          cases hb : r.scal with
          | false => rw [hb] at h; cases h
          | true =>
            rw [hb] at h
            cases h
            simp only [Prod.mk.injEq, List.cons.injEq, AV.fn.injEq, and_true] at he
            obtain ⟨rfl, rfl⟩ := he
            exact Y.shot (G := ⟨P, N, ids⟩) (σs := σa) 9 ho hf hc.h pf hp hs (Sto.at_sub hat).1 hb
  all_goals (simp only [leE] at h; cases h)
theorem dcE_ok {news : List Nat} {f : FuncId} {σc σ2 : Sto} {avs : List AV} {r : AV} (pf : SCalls P f σc avs (fun a σ' => a = r ∧ σ' = σ2)) (hc : CallOk P f) {s : Stp} {ob : Obs} (h : dcE ids env σ σc news r σ2 o.op = some (s, ob)) (he : ob = (.fn f [] :: avs, σc)) : StOk ⟨P, N, ids⟩ o env σ s := by
  cases ho : o.op <;> rw [ho] at h
  case call c =>
    simp only [dcE] at h
    split at h
    · cases h
    · rename_i f' as ha
      obtain ⟨fo, args, k, cap, ps, rfl, hf, hp, rfl⟩ := argsE_ok ha
      split at h
      · cases h
      · rename_i avs' hs
        split at h
        · cases h
        · rename_i σc' hat
          generalize hb : (news.all _ && _ && _ && _) = bb at h
          cases bb with
          | false => cases h
          | true =>
            simp only [Bool.and_eq_true, Bool.not_eq_true'] at hb
            obtain ⟨⟨⟨b1, b2⟩, b3⟩, b4⟩ := hb
            cases h
            simp only [Prod.mk.injEq, List.cons.injEq, AV.fn.injEq, and_true] at he
            obtain ⟨⟨rfl, rfl⟩, rfl⟩ := he
            refine ⟨?_, by rw [List.all_eq_true] at b1 ⊢; exact fun d hd => ((Bool.and_eq_true _ _).mp (b1 d hd)).1⟩
            have hD := Z.dcall (G := ⟨P, N, ids⟩) (σ := σ) news ho hf hc.h pf hp (sealEL_ok hs) (Sto.at_sub hat).1 b1 b2 (fun r' σ2' hh => by obtain ⟨rfl, rfl⟩ := hh; exact ⟨b3, b4⟩)
            exact hD.mono fun a s ⟨σ2', ⟨h1, h2⟩, h3⟩ => ⟨h1, by rw [h3, h2]⟩
  all_goals (simp only [dcE] at h; cases h)
theorem apE_ok (W : Wld P tb) {d2 sz bytes : Nat} {xs ys zs : List (List AV)} (pf : Ap sz bytes xs ys zs) {s : Stp} {ob : Obs} (h : apE tb ids env σ d2 sz bytes zs o.op = some (s, ob)) (he : ob = ([.lst false xs, .lst false ys], [])) : StOk ⟨P, N, ids⟩ o env σ s := by
  obtain ⟨p0, p1, p2, p3, p4, p5⟩ := pf
  cases ho : o.op <;> rw [ho] at h
  case call c =>
    obtain ⟨cl, args, tys⟩ := c
    simp only [apE] at h
    split at h
    · split at h
      · split at h
        · rename_i s0 x0 hx0
          have : args = #[s0, x0] := Array.toList_inj.1 (by simpa using hx0)
          subst this
          split at h
          · rename_i T T2 hT0
            have : tys = #[T, T2] := Array.toList_inj.1 (by simpa using hT0)
            subst this
            split at h
            · rename_i E sz' bytes' zs' hT
              have hk := (TbAll.get W.tys hT).kd
              simp only [KdOk] at hk
              generalize hb : (Nat.beq T T2 && _ && _ && _) = bb at h
              cases bb with
              | false => cases h
              | true =>
                simp only [cond_true] at h
                simp only [Bool.and_eq_true, Bool.not_eq_true'] at hb
                obtain ⟨⟨⟨b1, b2⟩, b3⟩, b4⟩ := hb
                have := Nat.eq_of_beq_eq_true b1
                subst this
                have := Nat.eq_of_beq_eq_true b2
                subst this
                have := Nat.eq_of_beq_eq_true b3
                subst this
                split at h
                · cases h
                · rename_i ax hx
                  split at h
                  · rename_i f ys' hs
                    have hse : Seal σ (env.ev x0) (.lst f ys') := by rw [Env.evo_ev hx]; exact sealE_ok hs
                    split at h
                    · rename_i d hs0
                      split at h
                      · rename_i T' sz'' xs' k fz hd
                        generalize hb2 : (Nat.beq T' E && _ && _) = bb at h
                        cases bb with
                        | false => cases h
                        | true =>
                          simp only [cond_true] at h
                          simp only [Bool.and_eq_true] at hb2
                          obtain ⟨⟨c1, c2⟩, c3⟩ := hb2
                          have := Nat.eq_of_beq_eq_true c1
                          subst this
                          have := Nat.eq_of_beq_eq_true c2
                          subst this
                          cases h
                          simp only [Prod.mk.injEq, List.cons.injEq, AV.lst.injEq, and_true, true_and] at he
                          obtain ⟨rfl, rfl⟩ := he
                          refine ⟨?_, by simpa using b4⟩
                          rw [← p0]
                          exact D.append (G := ⟨P, N, ids⟩) ho (Env.evo_ev hs0) hd hse hk.2.1 rfl p2 p3 p4 p5 b4 c3
                      · cases h
                    · rename_i hs0
                      generalize hb2 : (Sto.clean _ _) = bb at h
                      cases bb with
                      | false => cases h
                      | true =>
                        cases h
                        simp only [Prod.mk.injEq, List.cons.injEq, AV.lst.injEq, and_true, true_and] at he
                        obtain ⟨rfl, rfl⟩ := he
                        refine ⟨?_, by simpa using b4⟩
                        rw [← p0]
                        exact D.appendF (G := ⟨P, N, ids⟩) ho (.inl ⟨Env.evo_ev hs0, rfl⟩) hse hk.2.1 p1 p2 p3 p4 p5 b4 hb2
                    · rename_i xs' hs0
                      generalize hb2 : (Sto.clean _ _ && _) = bb at h
                      cases bb with
                      | false => cases h
                      | true =>
                        cases h
                        rw [Bool.and_eq_true] at hb2
                        simp only [Prod.mk.injEq, List.cons.injEq, AV.lst.injEq, and_true, true_and] at he
                        obtain ⟨rfl, rfl⟩ := he
                        refine ⟨?_, by simpa using b4⟩
                        rw [← p0]
                        exact D.appendF (G := ⟨P, N, ids⟩) ho (.inr ⟨Env.evo_ev hs0, (Iff.of_eq Nat.blt_eq).1 hb2.2⟩) hse hk.2.1 p1 p2 p3 p4 p5 b4 hb2.1
                    · cases h
                  · cases h
            · cases h
          · cases h
        · cases h
      · cases h
    · cases h
  all_goals (simp only [apE] at h; cases h)
theorem slE_ok (W : Wld P tb) {sz : Nat} {xs zs : List (List AV)} {a b : Int} (pf : Sl sz xs a b zs) {s : Stp} {ob : Obs} (h : slE tb env σ sz zs o.op = some (s, ob)) (he : ob = ([.lst false xs, .int .i64 a, .int .i64 b], [])) : StOk ⟨P, N, ids⟩ o env σ s := by
  obtain ⟨p1, p2, p3⟩ := pf
  cases ho : o.op <;> rw [ho] at h
  case slice T x lo hi mx =>
    cases mx with
    | some m => simp only [slE] at h; cases h
    | none =>
      simp only [slE] at h
      split at h
      · rename_i sz' _ _ hT
        have hk := (TbAll.get W.tys hT).kd
        simp only [KdOk] at hk
        split at h
        · cases h
        · rename_i ax hx
          split at h
          · rename_i f xs' hs
            split at h
            · cases h
            · rename_i a' ha
              split at h
              · cases h
              · rename_i b' hb'
                cases hb : Nat.beq sz' sz with
                | false => rw [hb] at h; cases h
                | true =>
                  rw [hb] at h; cases h
                  simp only [Prod.mk.injEq, List.cons.injEq, AV.lst.injEq, AV.int.injEq, and_true, true_and] at he
                  obtain ⟨rfl, rfl, rfl⟩ := he
                  have := Nat.eq_of_beq_eq_true hb
                  subst this
                  obtain ⟨q1, q2⟩ := optI_lo ha
                  obtain ⟨q3, q4⟩ := optI_hi hb'
                  have hY := Y.slice (G := ⟨P, N, ids⟩) (σ := σ) ho (by rw [Env.evo_ev hx]; exact sealE_ok hs) hk.1 p1 q1 q3 (by rw [q2, q4]; exact p2) (ownOf ax) (fun σ' hR => by
                    rw [Env.evo_ev hx]
                    have : sealE [] σ' ax = some (.lst f xs') := by
                      cases ax
                      case own d => simp only [sealE] at hs ⊢; rw [hR _ (by simp [ownOf])]; exact hs
                      case lst b l => cases b <;> exact hs
                      case agg l => simp only [sealE] at hs; split at hs <;> cases hs
                      case tup l => simp only [sealE] at hs; split at hs <;> cases hs
                      case fn f l => simp only [sealE] at hs; split at hs <;> cases hs
                      all_goals exact hs
                    exact sealE_ok this)
                  rw [q2, q4, p3] at hY
                  exact hY
          · cases h
      · cases h
  all_goals (simp only [slE] at h; cases h)
theorem qrE_ok {n : Int} (pf : n ≠ 0) {s : Stp} {ob : Obs} (h : qrE env o.op = some (s, ob)) (he : ob = ([.int .i64 n], [])) : StOk ⟨P, N, ids⟩ o env σ s := by
  cases ho : o.op <;> rw [ho] at h
  case binOp op T x y T' =>
    simp only [qrE] at h
    split at h
    · rename_i k m hx
      split at h
      · rename_i k' n' hy
        cases hkk : decide (k = k') with
        | false => rw [hkk] at h; cases h
        | true =>
          rw [hkk] at h
          simp only [cond_true] at h
          have := of_decide_eq_true hkk
          subst this
          split at h
          · cases h
            simp only [Prod.mk.injEq, List.cons.injEq, AV.int.injEq, and_true, true_and] at he
            subst he
            exact Y.quoW ho (Env.evo_ev hx) (Env.evo_ev hy) pf
          · cases h
            simp only [Prod.mk.injEq, List.cons.injEq, AV.int.injEq, and_true, true_and] at he
            subst he
            exact Y.rem ho (Env.evo_ev hx) (Env.evo_ev hy) pf
          · cases h
      · cases h
    · cases h
  all_goals (simp only [qrE] at h; cases h)
theorem shE_ok {n : Int} (pf : 0 ≤ n) {s : Stp} {ob : Obs} (h : shE env o.op = some (s, ob)) (he : ob = ([.int .i64 n], [])) : StOk ⟨P, N, ids⟩ o env σ s := by
  cases ho : o.op <;> rw [ho] at h
  case binOp op T x y T' =>
    simp only [shE] at h
    split at h
    · rename_i k m hx
      split at h
      · rename_i k' n' hy
        split at h
        · cases h
          simp only [Prod.mk.injEq, List.cons.injEq, AV.int.injEq, and_true, true_and] at he
          subst he
          exact Y.shift (op := .shl) (.inl rfl) ho (Env.evo_ev hx) (Env.evo_ev hy) pf
        · cases h
          simp only [Prod.mk.injEq, List.cons.injEq, AV.int.injEq, and_true, true_and] at he
          subst he
          exact Y.shift (op := .shr) (.inr rfl) ho (Env.evo_ev hx) (Env.evo_ev hy) pf
        · cases h
      · cases h
    · cases h
  all_goals (simp only [shE] at h; cases h)
theorem isE2_ok (W : Wld P tb) {s0 : ByteArray} {n : Int} {b : UInt8} (pf : 0 ≤ n ∧ s0[n.toNat]? = some b) {s : Stp} {ob : Obs} (h : isE2 tb env b o.op = some (s, ob)) (he : ob = ([.str s0, .int .i64 n], [])) : StOk ⟨P, N, ids⟩ o env σ s := by
  cases ho : o.op <;> rw [ho] at h
  case index T x y =>
    simp only [isE2] at h
    split at h
    · rename_i hT
      have hk := (TbAll.get W.tys hT).kd
      simp only [KdOk] at hk
      split at h
      · rename_i s' hx
        split at h
        · rename_i k n' hy
          cases h
          simp only [Prod.mk.injEq, List.cons.injEq, AV.str.injEq, AV.int.injEq, and_true, true_and] at he
          obtain ⟨rfl, rfl⟩ := he
          exact Y.indexS ho (Env.evo_ev hx) (Env.evo_ev hy) hk pf.1 pf.2
        · cases h
      · cases h
    · cases h
  all_goals (simp only [isE2] at h; cases h)
theorem lkE_ok (W : Wld P tb) {E : Nat} {k : IntKind} {ents : List (AV × AV)} {n : Int} {a : AV} {b : Bool} (pf : Lk P E k ents n a b) {s : Stp} {ob : Obs} (h : lkE tb env σ E k a b o.op = some (s, ob)) (he : ob = ([.int .i64 n], [(0, .map 0 0 ents)])) : StOk ⟨P, N, ids⟩ o env σ s := by
  obtain ⟨α, l, enc, z, rfl, rfl, rfl, hz⟩ := pf
  cases ho : o.op <;> rw [ho] at h
  case lookup T x y ok =>
    simp only [lkE] at h
    split at h
    · rename_i K E' k' hT
      have hk := (TbAll.get W.tys hT).kd
      simp only [KdOk] at hk
      split at h
      · rename_i d hx
        split at h
        · rename_i k2 n' hy
          split at h
          · rename_i K2 E2 ents' hd
            generalize hb : (Nat.beq E' E && _ && _ && _ && _) = bb at h
            cases bb with
            | false => cases h
            | true =>
              simp only [Bool.and_eq_true] at hb
              obtain ⟨⟨⟨⟨b1, b2⟩, b3⟩, b4⟩, b5⟩ := hb
              have := Nat.eq_of_beq_eq_true b1
              subst this
              have := of_decide_eq_true b2
              subst this
              have := of_decide_eq_true b3
              subst this
              have := Nat.eq_of_beq_eq_true b4
              subst this
              have := Nat.eq_of_beq_eq_true b5
              subst this
              cases h
              simp only [Prod.mk.injEq, List.cons.injEq, AV.int.injEq, AObj.map.injEq, and_true, true_and] at he
              obtain ⟨rfl, rfl⟩ := he
              exact Y.lookup l enc z ho (Env.evo_ev hx) (Env.evo_ev hy) hd hk hz
          · cases h
        · cases h
      · cases h
    · cases h
  all_goals (simp only [lkE] at h; cases h)
theorem muP_ok (W : Wld P tb) {k : IntKind} {ents ents' : List (AV × AV)} {n : Int} {v : AV} (pf : Mu k ents n v ents') {T : Nat} {x y z : Operand} (ho : o.op = .mapUpdate T x y z ∨ o.op = .insert T x y z) {s : Stp} {ob : Obs} (h : muP tb env σ k ents' T x y z = some (s, ob)) (he : ob = ([.int .i64 n, v], [(0, .map 0 0 ents)])) : StOk ⟨P, N, ids⟩ o env σ s := by
  obtain ⟨α, l, enc, q, rfl, rfl, hc, rfl⟩ := pf
  simp only [muP] at h
  split at h
  · rename_i K E' k' hT
    have hk := (TbAll.get W.tys hT).kd
    simp only [KdOk] at hk
    split at h
    · rename_i d hx
      split at h
      · rename_i k2 n' hy
        split at h
        · rename_i v' hz
          split at h
          · rename_i K2 E2 ents' hd
            generalize hb : (decide (k' = k) && _ && _ && _) = bb at h
            cases bb with
            | false => cases h
            | true =>
              simp only [Bool.and_eq_true] at hb
              obtain ⟨⟨⟨b2, b3⟩, b4⟩, b5⟩ := hb
              have := of_decide_eq_true b2
              subst this
              have := of_decide_eq_true b3
              subst this
              have := Nat.eq_of_beq_eq_true b4
              subst this
              have := Nat.eq_of_beq_eq_true b5
              subst this
              cases h
              simp only [Prod.mk.injEq, List.cons.injEq, AV.int.injEq, AObj.map.injEq, and_true, true_and] at he
              obtain ⟨⟨rfl, rfl⟩, rfl⟩ := he
              exact ⟨D.mapUpdate l enc q ho (Env.evo_ev hx) (Env.evo_ev hy) (Env.evo_ev hz) hc hd hk, rfl⟩
          · cases h
        · cases h
      · cases h
    · cases h
  · cases h
theorem muE_ok (W : Wld P tb) {k : IntKind} {ents ents' : List (AV × AV)} {n : Int} {v : AV} (pf : Mu k ents n v ents') {s : Stp} {ob : Obs} (h : muE tb env σ k ents' o.op = some (s, ob)) (he : ob = ([.int .i64 n, v], [(0, .map 0 0 ents)])) : StOk ⟨P, N, ids⟩ o env σ s := by
  cases ho : o.op <;> rw [ho] at h
  case mapUpdate T x y z => exact muP_ok W pf (.inl ho) h he
  case insert T x y z => exact muP_ok W pf (.inr ho) h he
  all_goals (simp only [muE] at h; cases h)
theorem lmE_ok (W : Wld P tb) {k : IntKind} {ents : List (AV × AV)} {n : Int} (pf : Lm k ents n) {s : Stp} {ob : Obs} (h : lmE tb env σ k n o.op = some (s, ob)) (he : ob = ([], [(0, .map 0 0 ents)])) : StOk ⟨P, N, ids⟩ o env σ s := by
  obtain ⟨α, l, enc, rfl, rfl⟩ := pf
  cases ho : o.op <;> rw [ho] at h
  case call c =>
    obtain ⟨cl, args, tys⟩ := c
    simp only [lmE] at h
    split at h
    · split at h
      · split at h
        · rename_i x hx0
          have : args = #[x] := Array.toList_inj.1 (by simpa using hx0)
          subst this
          split at h
          · rename_i T hT0
            have : tys = #[T] := Array.toList_inj.1 (by simpa using hT0)
            subst this
            split at h
            · rename_i K E' k' hT
              have hk := (TbAll.get W.tys hT).kd
              simp only [KdOk] at hk
              split at h
              · rename_i d hx
                split at h
                · rename_i K2 E2 ents' hd
                  generalize hb : (decide (k' = k) && _ && _) = bb at h
                  cases bb with
                  | false => cases h
                  | true =>
                    simp only [Bool.and_eq_true] at hb
                    obtain ⟨⟨b2, b4⟩, b5⟩ := hb
                    have := of_decide_eq_true b2
                    subst this
                    have := Nat.eq_of_beq_eq_true b4
                    subst this
                    have := Nat.eq_of_beq_eq_true b5
                    subst this
                    cases h
                    simp only [Prod.mk.injEq, List.cons.injEq, AObj.map.injEq, and_true, true_and] at he
                    subst he
                    exact Y.lenM l enc ho rfl (Env.evo_ev hx) hd hk.und
                · cases h
              · cases h
            · cases h
          · cases h
        · cases h
      · cases h
    · cases h
  all_goals (simp only [lmE] at h; cases h)
theorem sqE_ok {neg : Bool} {T : Nat} {a b : AV} {r : Bool} (pf : ∀ (x y : Operand) w, (do eqGuard (bif neg then .neq else .eql) T x y (valOf a) (valOf b); binOp (bif neg then .neq else .eql) T (valOf a) (valOf b) : Sem Value).run P w = .ok (.bool r) w)
    {s : Stp} {ob : Obs} (h : sqE env neg T r o.op = some (s, ob)) (he : ob = ([a, b], [])) : StOk ⟨P, N, ids⟩ o env σ s := by
  cases ho : o.op <;> rw [ho] at h
  case binOp op T' x y T2 =>
    simp only [sqE] at h
    split at h
    · cases h
    · rename_i a' hx
      split at h
      · cases h
      · rename_i b' hy
        generalize hb : (a'.plain && _ && _) = bb at h
        cases bb with
        | false => cases h
        | true =>
          simp only [cond_true] at h
          simp only [Bool.and_eq_true] at hb
          have := Nat.eq_of_beq_eq_true hb.2
          subst this
          split at h
          · cases neg with
            | true => cases h
            | false =>
              cases h
              simp only [Prod.mk.injEq, List.cons.injEq, and_true] at he
              obtain ⟨rfl, rfl⟩ := he
              exact Y.seql ho (Env.evo_ev hx) (Env.evo_ev hy) hb.1.1 hb.1.2 (pf x y)
          · cases neg with
            | false => cases h
            | true =>
              cases h
              simp only [Prod.mk.injEq, List.cons.injEq, and_true] at he
              obtain ⟨rfl, rfl⟩ := he
              exact Y.sneq ho (Env.evo_ev hx) (Env.evo_ev hy) hb.1.1 hb.1.2 (pf x y)
          · cases h
  all_goals (simp only [sqE] at h; cases h)
theorem stepH_ok (W : Wld P tb) : ∀ {hint : Hint P} {s : Stp} {ob : Obs}, stepH tb ids o env σ hint = some (s, ob) → ob = hint.exp → StOk ⟨P, N, ids⟩ o env σ s
  | .au, s, ob, h, he => by
    simp only [stepH] at h
    split at h
    · rename_i R av hy; cases h; exact auY_ok W hy
    · split at h
      · rename_i s' hs; cases h; exact stE_ok W hs
      · cases h
  | .al d, s, ob, h, he => by
    simp only [stepH] at h
    split at h
    · rename_i s' hs; cases h; exact alE_ok W hs
    · cases h
  | .to hh a b e, s, ob, h, he => by
    simp only [stepH] at h
    split at h
    · rename_i R av ob' hs; cases h
      simp only [Hint.exp, Prod.mk.injEq, List.cons.injEq] at he
      obtain ⟨⟨h1, h2⟩, h3⟩ := he
      have := stepH_ok W hs (Prod.ext h2 h3)
      simp only [StOk] at this ⊢
      rw [← e, ← h1]; exact this
    · cases h
  | .ix sz xs i row pf, s, ob, h, he => ixE_ok W pf h he
  | .lo d sz xs i off row pf, s, ob, h, he => loE_ok W pf h he
  | .so d sz xs i off ca zs pf k hk, s, ob, h, he => soE_ok W pf hk h he
  | .rf f caps avs r pf hc, s, ob, h, he => rfE_ok pf hc h he
  | .ro raw f σs avs r pf hc, s, ob, h, he => roE_ok pf hc h he
  | .le ds f avs r pf hc, s, ob, h, he => leE_ok pf hc h he
  | .dc news f σc avs r σ2 pf hc, s, ob, h, he => dcE_ok pf hc h he
  | .ap d2 sz bytes xs ys zs pf, s, ob, h, he => apE_ok W pf h he
  | .sl sz xs a b zs pf, s, ob, h, he => slE_ok W pf h he
  | .qr n pf, s, ob, h, he => qrE_ok pf h he
  | .sh n pf, s, ob, h, he => shE_ok pf h he
  | .is s0 n b pf, s, ob, h, he => isE2_ok W pf h he
  | .lk E k ents n a b pf, s, ob, h, he => lkE_ok W pf h he
  | .mu k ents n v ents' pf, s, ob, h, he => muE_ok W pf h he
  | .lm k ents n pf, s, ob, h, he => lmE_ok W pf h he
  | .sq neg T a b r pf, s, ob, h, he => sqE_ok pf h he
end
end Go.Proofs.Ytggbjbcgfelgiaa
