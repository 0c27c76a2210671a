/- Abstract values and the relation to the model's values; the store of a call; the judgement on regions, whatever order they draw. No condition. -/
import Derived.Orders
import Derived.Tactics
import Derived.Laws.World
import Derived.Below
import Derived.KernelRfl
namespace Go.Proofs.Ytggbjbcgfelgiaa
set_option linter.all false
open Go

abbrev Imm := Nat → Nat → Option Value
def ImmLe (I I' : Imm) : Prop := ∀ b o v, I b o = some v → I' b o = some v
theorem ImmLe.refl (I : Imm) : ImmLe I I := fun _ _ _ h => h
theorem ImmLe.trans {I J K : Imm} (h : ImmLe I J) (h' : ImmLe J K) : ImmLe I K := fun _ _ _ x => h' _ _ _ (h _ _ _ x)

inductive AV where
  | junk
  | undef
  | int (k : IntKind) (n : Int)
  | bool (b : Bool)
  | str (s : ByteArray)
  | lst (full : Bool) (xs : List (List AV))
  | lptr (cs : List AV)
  | agg (cs : List AV)
  | tup (vs : List AV)
  | fn (f : Nat) (cap : List AV)
  | nils
  | nilp
  | own (d : Nat)
  | ptr (d off : Nat)
  | mapv (d : Nat)
  | cfn (f : Nat) (cap : List AV)
  | sl0
  deriving Inhabited

mutual
def RepC (I : Imm) : AV → Value → Prop
  | .junk, _ => True
  | .undef, v => v = Go.undef
  | .int k n, v => v = .int k n
  | .bool b, v => v = .bool b
  | .str s, v => v = .string s
  | .lst full xs, v => ∃ a c, v = .slice a xs.length c ∧ xs.length ≤ c ∧ c ≤ maxLen ∧ (full = true → c = xs.length) ∧
      (xs = [] ∨ ∃ b o, a = some ⟨b, o, none⟩ ∧ RepRows I b xs o)
  | .lptr cs, v => ∃ b o, v = .pointer (some ⟨b, o, none⟩) ∧ RepRow I b cs o
  | .agg cs, v => ∃ vs, v = .agg vs ∧ RepCs I cs vs.toList
  | .tup cs, v => ∃ vs, v = .tuple vs ∧ RepCs I cs vs.toList
  | .fn f cap, v => ∃ vs, v = .func (.func f) #[] vs ∧ RepCs I cap vs.toList
  | .nils, v => v = .slice none 0 0
  | .nilp, v => v = .pointer none
  | .own _, _ => False
  | .ptr _ _, _ => False
  | .mapv _, _ => False
  | .cfn f cap, v => ∃ vs, v = .func (.func f) #[] vs ∧ RepCs I cap vs.toList
  | .sl0, v => ∃ a c, v = .slice (some a) 0 c ∧ c ≤ maxLen
def RepCs (I : Imm) : List AV → List Value → Prop
  | [], vs => vs = []
  | x :: r, vs => ∃ u us, vs = u :: us ∧ RepC I x u ∧ RepCs I r us
def RepRow (I : Imm) (b : Nat) : List AV → Nat → Prop
  | [], _ => True
  | x :: r, o => (∃ u, I b o = some u ∧ RepC I x u) ∧ RepRow I b r (o + 1)
def RepRows (I : Imm) (b : Nat) : List (List AV) → Nat → Prop
  | [], _ => True
  | e :: r, o => RepRow I b e o ∧ RepRows I b r (o + e.length)
end

def isSl : Value → Bool | .slice .. => true | _ => false
def isMp : Value → Bool | .map .. => true | _ => false
def blk : Value → Option Nat
  | .pointer (some a) => some a.block
  | .slice (some a) _ _ => some a.block
  | .map (some r) => some r
  | _ => none

mutual
def Rep (I : Imm) (β : Nat → Value) : AV → Value → Prop
  | .agg cs, v => ∃ vs, v = .agg vs ∧ RepL I β cs vs.toList
  | .tup cs, v => ∃ vs, v = .tuple vs ∧ RepL I β cs vs.toList
  | .fn f cap, v => ∃ vs, v = .func (.func f) #[] vs ∧ RepL I β cap vs.toList
  | .own d, v => v = β d ∧ isSl v = true
  | .ptr d off, v => ∃ b, blk (β d) = some b ∧ v = .pointer (some ⟨b, off, none⟩)
  | .mapv d, v => v = β d ∧ isMp v = true
  | .junk, _ => True
  | .undef, v => RepC I .undef v
  | .int k n, v => RepC I (.int k n) v
  | .bool b, v => RepC I (.bool b) v
  | .str s, v => RepC I (.str s) v
  | .lst f xs, v => RepC I (.lst f xs) v
  | .lptr cs, v => RepC I (.lptr cs) v
  | .nils, v => RepC I .nils v
  | .nilp, v => RepC I .nilp v
  | .cfn f cap, v => RepC I (.cfn f cap) v
  | .sl0, v => RepC I .sl0 v
def RepL (I : Imm) (β : Nat → Value) : List AV → List Value → Prop
  | [], vs => vs = []
  | x :: r, vs => ∃ u us, vs = u :: us ∧ Rep I β x u ∧ RepL I β r us
end

mutual
theorem RepC_mono {I I' : Imm} (h : ImmLe I I') : ∀ (x : AV) (v : Value), RepC I x v → RepC I' x v
  | .junk, _, _ => trivial
  | .undef, _, r => r
  | .int _ _, _, r => r
  | .bool _, _, r => r
  | .str _, _, r => r
  | .lst full xs, v, r => by
      simp only [RepC] at r ⊢
      obtain ⟨a, c, h1, h2, h3, h4, h5⟩ := r
      refine ⟨a, c, h1, h2, h3, h4, ?_⟩
      rcases h5 with h5 | ⟨b, o, h5, h6⟩
      · exact .inl h5
      · exact .inr ⟨b, o, h5, RepRows_mono h xs b o h6⟩
  | .lptr cs, v, r => by
      simp only [RepC] at r ⊢
      obtain ⟨b, o, h1, h2⟩ := r
      exact ⟨b, o, h1, RepRow_mono h cs b o h2⟩
  | .agg cs, v, r => by
      simp only [RepC] at r ⊢
      obtain ⟨vs, h1, h2⟩ := r
      exact ⟨vs, h1, RepCs_mono h cs _ h2⟩
  | .tup cs, v, r => by
      simp only [RepC] at r ⊢
      obtain ⟨vs, h1, h2⟩ := r
      exact ⟨vs, h1, RepCs_mono h cs _ h2⟩
  | .fn f cap, v, r => by
      simp only [RepC] at r ⊢
      obtain ⟨vs, h1, h2⟩ := r
      exact ⟨vs, h1, RepCs_mono h cap _ h2⟩
  | .nils, _, r => r
  | .nilp, _, r => r
  | .own _, _, r => r
  | .ptr _ _, _, r => r
  | .mapv _, _, r => r
  | .cfn f cap, v, r => by
      simp only [RepC] at r ⊢
      obtain ⟨vs, h1, h2⟩ := r
      exact ⟨vs, h1, RepCs_mono h cap _ h2⟩
  | .sl0, _, r => by simp only [RepC] at r ⊢; exact r
theorem RepCs_mono {I I' : Imm} (h : ImmLe I I') : ∀ (x : List AV) (v : List Value), RepCs I x v → RepCs I' x v
  | [], _, r => r
  | x :: xs, v, r => by
      simp only [RepCs] at r ⊢
      obtain ⟨u, us, h1, h2, h3⟩ := r
      exact ⟨u, us, h1, RepC_mono h x u h2, RepCs_mono h xs us h3⟩
theorem RepRow_mono {I I' : Imm} (h : ImmLe I I') : ∀ (x : List AV) (b o : Nat), RepRow I b x o → RepRow I' b x o
  | [], _, _, r => r
  | x :: xs, b, o, r => by
      simp only [RepRow] at r ⊢
      obtain ⟨⟨u, h1, h2⟩, h3⟩ := r
      exact ⟨⟨u, h _ _ _ h1, RepC_mono h x u h2⟩, RepRow_mono h xs b (o + 1) h3⟩
theorem RepRows_mono {I I' : Imm} (h : ImmLe I I') : ∀ (x : List (List AV)) (b o : Nat), RepRows I b x o → RepRows I' b x o
  | [], _, _, r => r
  | x :: xs, b, o, r => by
      simp only [RepRows] at r ⊢
      exact ⟨RepRow_mono h x b o r.1, RepRows_mono h xs b (o + x.length) r.2⟩
end

/-- handles only come to be: what was virtual may have become a block -/
def HLe (β β' : Nat → Value) : Prop := ∀ d, β d = .nilFunc ∨ β' d = β d
theorem HLe.refl (β : Nat → Value) : HLe β β := fun _ => .inr rfl

mutual
theorem Rep_mono {I I' : Imm} {β β' : Nat → Value} (h : ImmLe I I') (hb : HLe β β') : ∀ (x : AV) (v : Value), Rep I β x v → Rep I' β' x v
  | .junk, _, _ => trivial
  | .undef, v, r => by simp only [Rep] at r ⊢; exact RepC_mono h _ v r
  | .int _ _, v, r => by simp only [Rep] at r ⊢; exact RepC_mono h _ v r
  | .bool _, v, r => by simp only [Rep] at r ⊢; exact RepC_mono h _ v r
  | .str _, v, r => by simp only [Rep] at r ⊢; exact RepC_mono h _ v r
  | .lst _ _, v, r => by simp only [Rep] at r ⊢; exact RepC_mono h _ v r
  | .lptr _, v, r => by simp only [Rep] at r ⊢; exact RepC_mono h _ v r
  | .nils, v, r => by simp only [Rep] at r ⊢; exact RepC_mono h _ v r
  | .nilp, v, r => by simp only [Rep] at r ⊢; exact RepC_mono h _ v r
  | .cfn _ _, v, r => by simp only [Rep] at r ⊢; exact RepC_mono h _ v r
  | .sl0, v, r => by simp only [Rep] at r ⊢; exact RepC_mono h _ v r
  | .agg cs, v, r => by
      simp only [Rep] at r ⊢
      obtain ⟨vs, h1, h2⟩ := r
      exact ⟨vs, h1, RepL_mono h hb cs _ h2⟩
  | .tup cs, v, r => by
      simp only [Rep] at r ⊢
      obtain ⟨vs, h1, h2⟩ := r
      exact ⟨vs, h1, RepL_mono h hb cs _ h2⟩
  | .fn f cap, v, r => by
      simp only [Rep] at r ⊢
      obtain ⟨vs, h1, h2⟩ := r
      exact ⟨vs, h1, RepL_mono h hb cap _ h2⟩
  | .own d, v, r => by
      simp only [Rep] at r ⊢
      obtain ⟨rfl, h2⟩ := r
      rcases hb d with e | e
      · rw [e] at h2; simp [isSl] at h2
      · exact ⟨e.symm, h2⟩
  | .mapv d, v, r => by
      simp only [Rep] at r ⊢
      obtain ⟨rfl, h2⟩ := r
      rcases hb d with e | e
      · rw [e] at h2; simp [isMp] at h2
      · exact ⟨e.symm, h2⟩
  | .ptr d off, v, r => by
      simp only [Rep] at r ⊢
      obtain ⟨b, h1, h2⟩ := r
      rcases hb d with e | e
      · rw [e] at h1; simp [blk] at h1
      · exact ⟨b, by rw [e]; exact h1, h2⟩
theorem RepL_mono {I I' : Imm} {β β' : Nat → Value} (h : ImmLe I I') (hb : HLe β β') : ∀ (x : List AV) (v : List Value), RepL I β x v → RepL I' β' x v
  | [], _, r => r
  | x :: xs, v, r => by
      simp only [RepL] at r ⊢
      obtain ⟨u, us, h1, h2, h3⟩ := r
      exact ⟨u, us, h1, Rep_mono h hb x u h2, RepL_mono h hb xs us h3⟩
end

/-! ids that a value names -/
mutual
def AV.refs (p : Nat → Bool) : AV → Bool
  | .agg cs => refsL p cs
  | .tup cs => refsL p cs
  | .fn _ cs => refsL p cs
  | .own d => p d
  | .ptr d _ => p d
  | .mapv d => p d
  | _ => false
def refsL (p : Nat → Bool) : List AV → Bool
  | [] => false
  | x :: r => x.refs p || refsL p r
end

mutual
theorem Rep_beta {I : Imm} {β β' : Nat → Value} {p : Nat → Bool} (hb : ∀ d, p d = false → β' d = β d) : ∀ (x : AV) (v : Value), x.refs p = false → Rep I β x v → Rep I β' x v
  | .junk, _, _, _ => trivial
  | .undef, v, _, r => by simp only [Rep] at r ⊢; exact r
  | .int _ _, v, _, r => by simp only [Rep] at r ⊢; exact r
  | .bool _, v, _, r => by simp only [Rep] at r ⊢; exact r
  | .str _, v, _, r => by simp only [Rep] at r ⊢; exact r
  | .lst _ _, v, _, r => by simp only [Rep] at r ⊢; exact r
  | .lptr _, v, _, r => by simp only [Rep] at r ⊢; exact r
  | .nils, v, _, r => by simp only [Rep] at r ⊢; exact r
  | .nilp, v, _, r => by simp only [Rep] at r ⊢; exact r
  | .cfn _ _, v, _, r => by simp only [Rep] at r ⊢; exact r
  | .sl0, v, _, r => by simp only [Rep] at r ⊢; exact r
  | .agg cs, v, e, r => by
      simp only [Rep, AV.refs] at r e ⊢
      obtain ⟨vs, h1, h2⟩ := r
      exact ⟨vs, h1, RepL_beta hb cs _ e h2⟩
  | .tup cs, v, e, r => by
      simp only [Rep, AV.refs] at r e ⊢
      obtain ⟨vs, h1, h2⟩ := r
      exact ⟨vs, h1, RepL_beta hb cs _ e h2⟩
  | .fn f cap, v, e, r => by
      simp only [Rep, AV.refs] at r e ⊢
      obtain ⟨vs, h1, h2⟩ := r
      exact ⟨vs, h1, RepL_beta hb cap _ e h2⟩
  | .own d, v, e, r => by
      simp only [Rep, AV.refs] at r e ⊢
      rw [hb d e]; exact r
  | .mapv d, v, e, r => by
      simp only [Rep, AV.refs] at r e ⊢
      rw [hb d e]; exact r
  | .ptr d off, v, e, r => by
      simp only [Rep, AV.refs] at r e ⊢
      rw [hb d e]; exact r
theorem RepL_beta {I : Imm} {β β' : Nat → Value} {p : Nat → Bool} (hb : ∀ d, p d = false → β' d = β d) : ∀ (x : List AV) (v : List Value), refsL p x = false → RepL I β x v → RepL I β' x v
  | [], _, _, r => r
  | x :: xs, v, e, r => by
      simp only [RepL, refsL, Bool.or_eq_false_iff] at r e ⊢
      obtain ⟨u, us, h1, h2, h3⟩ := r
      exact ⟨u, us, h1, Rep_beta hb x u e.1 h2, RepL_beta hb xs us e.2 h3⟩
end

/-! the store -/
inductive AObj where
  | cells (T : TypeId) (cs : List AV)
  | slice (T : TypeId) (sz : Nat) (xs : List (List AV)) (k : Nat) (fz : Bool)
  | map (K E : TypeId) (ents : List (AV × AV))
abbrev Sto := List (Nat × AObj)
def Sto.get : Sto → Nat → Option AObj
  | [], _ => none
  | (k, v) :: r, n => bif Nat.beq k n then some v else Sto.get r n
abbrev Env := List (Nat × AV)
def Env.get : Env → Nat → AV
  | [], _ => .junk
  | (k, v) :: r, n => bif Nat.beq k n then v else Env.get r n
def Env.put (env : Env) (d : Option Nat) (v : AV) : Env := match d with | some t => (t, v) :: env | none => env

theorem Env.get_cons (k : Nat) (v : AV) (r : Env) (n : Nat) : Env.get ((k, v) :: r) n = if k = n then v else Env.get r n := by
  simp only [Env.get]
  by_cases h : k = n
  · subst h; simp
  · have : Nat.beq k n = false := by rw [← Bool.not_eq_true, Nat.beq_eq]; exact h
    simp [this, h]
theorem Sto.get_cons (k : Nat) (v : AObj) (r : Sto) (n : Nat) : Sto.get ((k, v) :: r) n = if k = n then some v else Sto.get r n := by
  simp only [Sto.get]
  by_cases h : k = n
  · subst h; simp
  · have : Nat.beq k n = false := by rw [← Bool.not_eq_true, Nat.beq_eq]; exact h
    simp [this, h]

mutual
/-- a constant of the program, as an abstract value -/
def avOf : Value → AV
  | .int k n => .int k n
  | .bool b => .bool b
  | .string s => .str s
  | .slice none 0 0 => .nils
  | .pointer none => .nilp
  | .agg ⟨cs⟩ => .agg (avOfL cs)
  | _ => .junk
def avOfL : List Value → List AV
  | [] => []
  | x :: r => avOf x :: avOfL r
end
mutual
theorem avOf_rep (I : Imm) (β : Nat → Value) : ∀ v, Rep I β (avOf v) v
  | .int k n => by simp [avOf, Rep, RepC]
  | .bool b => by simp [avOf, Rep, RepC]
  | .string s => by simp [avOf, Rep, RepC]
  | .slice none 0 0 => by simp [avOf, Rep, RepC]
  | .slice none 0 (n+1) => by simp [avOf, Rep]
  | .slice none (m+1) n => by simp [avOf, Rep]
  | .slice (some a) m n => by simp [avOf, Rep]
  | .pointer none => by simp [avOf, Rep, RepC]
  | .pointer (some a) => by simp [avOf, Rep]
  | .agg ⟨cs⟩ => by simp only [avOf, Rep]; exact ⟨_, rfl, avOfL_rep I β cs⟩
  | .float _ _ => by simp [avOf, Rep]
  | .complex _ _ _ => by simp [avOf, Rep]
  | .map _ => by simp [avOf, Rep]
  | .chan _ => by simp [avOf, Rep]
  | .func _ _ _ => by simp [avOf, Rep]
  | .nilFunc => by simp [avOf, Rep]
  | .iface _ _ => by simp [avOf, Rep]
  | .nilIface => by simp [avOf, Rep]
  | .tuple _ => by simp [avOf, Rep]
theorem avOfL_rep (I : Imm) (β : Nat → Value) : ∀ vs, RepL I β (avOfL vs) vs
  | [] => by simp [avOfL, RepL]
  | x :: r => by simp only [avOfL, RepL]; exact ⟨x, r, rfl, avOf_rep I β x, avOfL_rep I β r⟩
end

def Env.ev (env : Env) : Operand → AV
  | .tmp t => env.get t
  | .const v => avOf v
  | .func f => .fn f []
  | .global _ => .junk

/-! the world -/
structure Gl where
  P : Program
  N : Nat
  ids : List Nat
structure Cx where
  B : Nat
  w0 : World
  I0 : Imm
  bl : List Nat
  β0 : Nat → Value

def Place (cx : Cx) (b : Nat) : Prop := cx.B ≤ b ∨ b ∈ cx.bl

def EntL (I : Imm) : List (AV × AV) → List MapEntry → Prop
  | [], es => es = []
  | (k, v) :: r, es => ∃ e us, es = e :: us ∧ RepC I k e.key ∧ RepC I v e.val ∧ EntL I r us

def ObjRep (cx : Cx) (I : Imm) (β : Nat → Value) (w : World) (d : Nat) : AObj → Prop
  | .cells T cs => β d = .nilFunc ∨ ∃ b arr, β d = .pointer (some ⟨b, 0, none⟩) ∧ w.heap[b]? = some (.cells arr T (0, 0)) ∧ RepL I β cs arr.toList ∧ (∀ o, I b o = none) ∧ Place cx b
  | .slice T sz xs k fz => β d = .nilFunc ∨ (β d = .slice none 0 0 ∧ xs = [] ∧ k = 0) ∨
      ∃ b cap arr, β d = .slice (some ⟨b, 0, none⟩) xs.length cap ∧ xs.length ≤ cap ∧ cap ≤ maxLen ∧ w.heap[b]? = some (.cells arr T (0, 0)) ∧ arr.size = cap * sz ∧
        RepCs I xs.flatten (arr.toList.take (xs.length * sz)) ∧ (∀ e ∈ xs, e.length = sz) ∧ k ≤ xs.length ∧
        (fz = true → ∀ o, o < xs.length * sz → I b o = arr[o]?) ∧ (∀ o, k * sz ≤ o → I b o = none) ∧ Place cx b
  | .map _ _ ents => β d = .nilFunc ∨ ∃ r es clock, β d = .map (some r) ∧ w.heap[r]? = some (.map es clock) ∧ EntL I ents es.toList ∧ (∀ o, I r o = none) ∧ Place cx r

structure RelW (G : Gl) (cx : Cx) (I : Imm) (β : Nat → Value) (σ : Sto) (w : World) : Prop where
  good : ∀ b o v, I b o = some v → w.cell? ⟨b, o, none⟩ = some v
  imono : ImmLe cx.I0 I
  iext : ∀ b, b < cx.B → b ∉ cx.bl → ∀ o, I b o = cx.I0 b o
  frame : ∀ b, b < cx.B → b ∉ cx.bl → w.heap[b]? = cx.w0.heap[b]?
  size : cx.B ≤ w.heap.size
  tape : w.tape = cx.w0.tape
  os : w.os = cx.w0.os
  output : w.output = cx.w0.output
  objs : ∀ d o, σ.get d = some o → ObjRep cx I β w d o
  sep : ∀ d d', (σ.get d).isSome → (σ.get d').isSome → d ≠ d' → ∀ b, blk (β d) = some b → blk (β d') ≠ some b
  keep : ∀ d ∈ G.ids, β d = cx.β0 d

/-- what an operation hands on -/
def UponV (P : Program) (Φ : Value → World → Prop) : Result Next → Prop
  | .ok (.value v) w' => Φ v w'
  | .ok .skip w' => Φ undef w'
  | .ok (.enter f args) w' => Calls P f args w' (fun e w'' => ∃ v, e = .returned v ∧ Φ v w'')
  | _ => False

theorem UponV.wp {P : Program} {o : Oper} {a : Act} {w : World} {Φ : Value → World → Prop} {K : Act → World → Prop} {Q : Exit → Act → World → Prop}
    (h : UponV P Φ ((execOp a.eval o).run P w)) (hk : ∀ v w', Φ v w' → K (a.put o.dst v) w') : o.wp P a w K Q := by
  unfold Oper.wp
  generalize (execOp a.eval o).run P w = r at h
  cases r with
  | halt x w' => exact h.elim
  | ok n w' =>
    cases n <;> simp only [UponV] at h <;> simp only [Oper.upon]
    case value v => exact hk _ _ h
    case skip => exact hk _ _ h
    case enter f args =>
      exact Calls.mono h fun e w'' ⟨v, he, hv⟩ => by subst he; exact hk _ _ hv

/-- an operation that leaves the store as it is (but for the virtual objects of 'mat', which it makes), whose value hangs on the operands and on the objects of R alone -/
def Yields (G : Gl) (o : Oper) (ev : Operand → AV) (σ : Sto) (mat R : List Nat) (av : AV) : Prop :=
  ∀ (σ' : Sto) (cx : Cx) (I : Imm) (β : Nat → Value) (w : World) (ρ : Operand → Value), (∀ d ∈ R, σ'.get d = σ.get d) → RelW G cx I β σ' w → (∀ d ∈ mat, β d = .nilFunc) →
    (∀ x ∈ o.op.operands, Rep I β (ev x) (ρ x)) →
    UponV G.P (fun v w' => ∃ I' β', Rep I' β' av v ∧ RelW G cx I' β' σ' w' ∧ ImmLe I I' ∧ (∀ d, d ∉ mat → β' d = β d)) ((execOp ρ o).run G.P w)

/-- an operation that may turn the objects of M, and make the objects of 'news' -/
def Does (G : Gl) (o : Oper) (ev : Operand → AV) (σ : Sto) (M news : List Nat) (Φ : AV → Sto → Prop) : Prop :=
  ∀ (cx : Cx) (I : Imm) (β : Nat → Value) (w : World) (ρ : Operand → Value), RelW G cx I β σ w → (∀ x ∈ o.op.operands, Rep I β (ev x) (ρ x)) →
    UponV G.P (fun v w' => ∃ av σ' I' β', Φ av σ' ∧ Rep I' β' av v ∧ RelW G cx I' β' σ' w' ∧ ImmLe I I' ∧ (∀ d, d ∉ news → β' d = β d) ∧ (∀ d, d ∉ M → σ'.get d = σ.get d)) ((execOp ρ o).run G.P w)

mutual
theorem refs_none {p : Nat → Bool} (h : ∀ d, p d = false) : ∀ x : AV, x.refs p = false
  | .junk | .undef | .int _ _ | .bool _ | .str _ | .lst _ _ | .lptr _ | .nils | .nilp | .cfn _ _ | .sl0 => rfl
  | .agg cs => by simp only [AV.refs]; exact refsL_none h cs
  | .tup cs => by simp only [AV.refs]; exact refsL_none h cs
  | .fn _ cs => by simp only [AV.refs]; exact refsL_none h cs
  | .own d => h d
  | .ptr d _ => h d
  | .mapv d => h d
theorem refsL_none {p : Nat → Bool} (h : ∀ d, p d = false) : ∀ x : List AV, refsL p x = false
  | [] => rfl
  | x :: r => by simp only [refsL, refs_none h x, refsL_none h r, Bool.or_self]
end
def Env.clean (p : Nat → Bool) : Env → Bool
  | [] => true
  | (_, v) :: r => !v.refs p && Env.clean p r
def entsRefs (p : Nat → Bool) : AObj → Bool
  | .cells _ cs => refsL p cs
  | _ => false
def Sto.clean (p : Nat → Bool) : Sto → Bool
  | [] => true
  | (d, v) :: r => !p d && !entsRefs p v && Sto.clean p r

theorem Env.clean_get {p : Nat → Bool} : ∀ {env : Env}, env.clean p = true → ∀ t, (env.get t).refs p = false
  | [], _, t => by simp [Env.get, AV.refs]
  | (k, v) :: r, h, t => by
      simp only [Env.clean, Bool.and_eq_true, Bool.not_eq_true'] at h
      rw [Env.get_cons]
      split
      · exact h.1
      · exact Env.clean_get h.2 t
theorem Sto.clean_get {p : Nat → Bool} : ∀ {σ : Sto}, σ.clean p = true → ∀ d o, σ.get d = some o → p d = false ∧ entsRefs p o = false
  | [], _, d, o, e => by simp [Sto.get] at e
  | (k, v) :: r, h, d, o, e => by
      simp only [Sto.clean, Bool.and_eq_true, Bool.not_eq_true'] at h
      rw [Sto.get_cons] at e
      split at e
      · rename_i hk; subst hk; cases e; exact ⟨h.1.1, h.1.2⟩
      · exact Sto.clean_get h.2 d o e

theorem Env.clean_none (e : Env) : e.clean ([] : List Nat).contains = true := by
  induction e with
  | nil => rfl
  | cons x r ih => simp only [Env.clean, ih, refs_none (p := ([] : List Nat).contains) (fun _ => rfl) x.2, Bool.not_false, Bool.and_self]
theorem Sto.clean_none (e : Sto) : e.clean ([] : List Nat).contains = true := by
  induction e with
  | nil => rfl
  | cons x r ih =>
    have : entsRefs ([] : List Nat).contains x.2 = false := by
      obtain ⟨d, o⟩ := x
      cases o <;> simp only [entsRefs]
      exact refsL_none (fun _ => rfl) _
    simp only [Sto.clean, ih, this]
    rfl

/-- virtual objects laid into the store, ahead of the operation that makes them -/
def Virt (G : Gl) (σ : Sto) (mat : List Nat) (σ2 : Sto) (env : Env) : Prop :=
  (∀ d, d ∉ mat → σ2.get d = σ.get d) ∧ (∀ d ∈ mat, d ∉ G.ids) ∧ env.clean mat.contains = true ∧ σ.clean mat.contains = true
theorem Virt.none (G : Gl) (σ : Sto) (env : Env) : Virt G σ [] σ env := ⟨fun _ _ => rfl, fun _ h => by simp at h, Env.clean_none env, Sto.clean_none σ⟩

def setH (β : Nat → Value) (mat : List Nat) : Nat → Value := fun d => if d ∈ mat then .nilFunc else β d

theorem ObjRep.beta {cx : Cx} {I : Imm} {β β' : Nat → Value} {w : World} {d : Nat} {o : AObj} {p : Nat → Bool} (hb : ∀ d, p d = false → β' d = β d) (hd : p d = false) (he : entsRefs p o = false)
    (h : ObjRep cx I β w d o) : ObjRep cx I β' w d o := by
  cases o with
  | cells T cs =>
    simp only [ObjRep, hb d hd] at h ⊢
    rcases h with h | ⟨b, arr, h1, h2, h3, h4⟩
    · exact .inl h
    · exact .inr ⟨b, arr, h1, h2, RepL_beta hb cs _ he h3, h4⟩
  | slice T sz xs k fz => simpa only [ObjRep, hb d hd] using h
  | map K E ents => simpa only [ObjRep, hb d hd] using h

theorem RelW.virt {G : Gl} {cx : Cx} {I : Imm} {β : Nat → Value} {σ σ2 : Sto} {w : World} {mat : List Nat} {env : Env} (h : RelW G cx I β σ w) (v : Virt G σ mat σ2 env) :
    RelW G cx I (setH β mat) σ2 w := by
  obtain ⟨v1, v2, v3, v4⟩ := v
  have hb : ∀ d, mat.contains d = false → setH β mat d = β d := fun d hd => by
    have : d ∉ mat := by simpa using hd
    simp [setH, this]
  have hn : ∀ d, d ∈ mat → setH β mat d = .nilFunc := fun d hd => by simp [setH, hd]
  refine { h with objs := fun d o e => ?_, sep := fun d d' e e' hne b => ?_, keep := fun d hd => ?_ }
  · by_cases hm : d ∈ mat
    · cases o <;> simp only [ObjRep] <;> exact .inl (hn d hm)
    · rw [v1 d hm] at e
      obtain ⟨c1, c2⟩ := Sto.clean_get v4 d o e
      exact (h.objs d o e).beta hb c1 c2
  · by_cases hm : d ∈ mat
    · simp [hn d hm, blk]
    · by_cases hm' : d' ∈ mat
      · simp [hn d' hm', blk]
      · rw [v1 d hm] at e
        rw [v1 d' hm'] at e'
        rw [hb d (by simpa using hm), hb d' (by simpa using hm')]
        exact h.sep d d' e e' hne b
  · have : d ∉ mat := fun hm => v2 d hm hd
    rw [hb d (by simpa using this)]
    exact h.keep d hd

/-! the certificate of a region -/
def Want (ops : Array Oper) (o : Oper) (env : Env) : Prop :=
  match o.guard with
  | none => True
  | some (j, want) => ∃ oj dj, ops[j]? = some oj ∧ oj.dst = some dj ∧ env.get dj = .bool want
def Skip (ops : Array Oper) (o : Oper) (env : Env) : Prop :=
  match o.guard with
  | none => False
  | some (j, want) => ∃ oj dj, ops[j]? = some oj ∧ oj.dst = some dj ∧ (env.get dj = .bool (!want) ∨ env.get dj = .undef)

/-- dr: the region draws its order; T: for each operation those that it waits for; es: the operations that turn the store or a variable -/
structure Sch where
  dr : Bool
  T : List (List Nat)
  es : List Nat

def logOk (s : Sch) (e : Nat) (M : List Nat) : List (Nat × List Nat) → Bool
  | [] => true
  | (i, R) :: r => ((s.T.getD e []).contains i || R.all (fun d => !M.contains d)) && logOk s e M r

def Cert (G : Gl) (ops : Array Oper) (s : Sch) : List (Nat × List Nat) → List Nat → Env → Sto → (Env → Sto → Prop) → Prop
  | _, [], env, σ, K => K env σ
  | log, i :: l, env, σ, K => ∃ o, ops[i]? = some o ∧
      ((Skip ops o env ∧ (s.dr = true → i ∉ s.es) ∧ Cert G ops s ((i, []) :: log) l (env.put o.dst .undef) σ K) ∨
       (Want ops o env ∧ (s.dr = true → i ∉ s.es) ∧ ∃ mat R av σ2, Virt G σ mat σ2 env ∧ (∀ d ∈ R, (σ2.get d).isSome) ∧ (∀ d ∈ mat, d ∈ R) ∧ Yields G o env.ev σ2 mat R av ∧
          Cert G ops s ((i, R) :: log) l (env.put o.dst av) σ2 K) ∨
       (Want ops o env ∧ (s.dr = true → i ∈ s.es) ∧ ∃ M news Φ, Does G o env.ev σ M news Φ ∧ (s.dr = true → logOk s i M log = true) ∧ env.clean news.contains = true ∧ (∀ d ∈ news, d ∉ G.ids ∧ σ.get d = none) ∧
          ∀ av σ', Φ av σ' → Cert G ops s log l (env.put o.dst av) σ' K) ∨
       (Skip ops o env ∧ (s.dr = true → i ∈ s.es) ∧ Cert G ops s log l (env.put o.dst .undef) σ K))

/-! the frame -/
def RelT (I : Imm) (β : Nat → Value) (env : Env) (a : Act) : Prop := ∀ t, Rep I β (env.get t) (a.tmps.getD t undef)

theorem RelT.ev {I : Imm} {β : Nat → Value} {env : Env} {a : Act} (h : RelT I β env a) (x : Operand) : Rep I β (env.ev x) (a.eval x) := by
  cases x with
  | tmp t => exact h t
  | const v => exact avOf_rep I β v
  | global g => simp [Env.ev, Rep]
  | func f => simp [Env.ev, Act.eval, Rep, RepL]

theorem tmps_put (a : Act) (d : Nat) (v : Value) (t : Nat) (hd : d < a.tmps.size) : (a.put (some d) v).tmps.getD t undef = if d = t then v else a.tmps.getD t undef := by
  simp only [Act.put]
  by_cases h : d = t
  · subst h; simp [Array.getD_eq_getD_getElem?, hd]
  · simp [h, Array.getD_eq_getD_getElem?, Array.getElem?_setIfInBounds_ne h]

end Go.Proofs.Ytggbjbcgfelgiaa
