/- The words in which the program's functions are written anew, as plain functions: none where a check fails. No condition. -/
import Derived.Test.YtggbjbcgfelgiaaA15
namespace Go.Proofs.Ytggbjbcgfelgiaa
set_option linter.all false
open Go

def bnd {α β : Type} (o : Option α) (k : α → Option β) : Option β := match o with | none => none | some a => k a
def chk {β : Type} (c : Bool) (k : Option β) : Option β := bif c then k else none
/-- ways that meet again -/
def jn {σ β : Type} (k : σ → Option β) (t : (σ → Option β) → Option β) : Option β := t k
def forI {α σ β : Type} : List α → Nat → (Int → α → (σ → Option β) → σ → Option β) → (σ → Option β) → σ → Option β
  | [], _, _, K, s => K s
  | x :: r, j, B, K, s => B (j : Int) x (forI r (j + 1) B K) s
def forN {σ β : Type} : Nat → Int → (Int → (σ → Option β) → σ → Option β) → (Int → σ → Option β) → σ → Option β
  | 0, i, _, K, s => K i s
  | n + 1, i, B, K, s => B i (forN n (i + 1) B K) s
def iter {σ β : Type} (F : (σ → Option β) → σ → Option β) : Nat → σ → Option β
  | 0, _ => none
  | n + 1, s => F (iter F n) s
/-- how often a loop may go round, of those that are no walk along a list -/
def fuel : Nat := 1099511627776
def whl {σ β : Type} (F : (σ → Option β) → σ → Option β) (s : σ) : Option β := iter F fuel s
def w64 (n : Int) : Int := IntKind.wrap .i64 n
def elO {α : Type} (l : List α) (i : Int) : Option α := if 0 ≤ i then l[i.toNat]? else none
def setO {α : Type} (l : List α) (i : Int) (x : α) : Option (List α) := if 0 ≤ i ∧ i < l.length then some (l.set i.toNat x) else none
def cap : Nat := 549755813888
def appO {α : Type} (l r : List α) : Option (List α) := if l.length + r.length ≤ cap then some (l ++ r) else none
def sliO {α : Type} (l : List α) (a b : Int) : Option (List α) := if 0 ≤ a ∧ a ≤ b ∧ b ≤ l.length then some ((l.take b.toNat).drop a.toNat) else none

def ixS (s : ByteArray) (n : Int) : Option UInt8 := if 0 ≤ n then s[n.toNat]? else none
theorem ixS_some {s : ByteArray} {n : Int} {b : UInt8} (h : ixS s n = some b) : 0 ≤ n ∧ s[n.toNat]? = some b := by
  unfold ixS at h
  split at h
  · exact ⟨‹_›, h⟩
  · cases h

theorem bnd_some {α β : Type} {o : Option α} {k : α → Option β} {r : β} (h : bnd o k = some r) : ∃ a, o = some a ∧ k a = some r := by
  cases o with
  | none => cases h
  | some a => exact ⟨a, rfl, h⟩
theorem chk_some {β : Type} {c : Bool} {k : Option β} {r : β} (h : chk c k = some r) : c = true ∧ k = some r := by
  cases c with
  | false => cases h
  | true => exact ⟨rfl, h⟩
theorem cs_some {β : Type} {c : Bool} {x y : Option β} {r : β} (h : (bif c then x else y) = some r) : (c = true ∧ x = some r) ∨ (c = false ∧ y = some r) := by
  cases c with
  | false => exact .inr ⟨rfl, h⟩
  | true => exact .inl ⟨rfl, h⟩
theorem jn_some {σ β : Type} {k : σ → Option β} {t : (σ → Option β) → Option β} {r : β} (h : jn k t = some r) : ∃ J, J = k ∧ t J = some r := ⟨k, rfl, h⟩
theorem some_inj {α : Type} {a b : α} (h : some a = some b) : a = b := by injection h
/-- the parts of a loop, each under a name -/
theorem forI_some {α σ β : Type} {l : List α} {j : Nat} {b : Int → α → (σ → Option β) → σ → Option β} {k : σ → Option β} {s : σ} {r : β} (h : forI l j b k s = some r) :
    ∃ B K, B = b ∧ K = k ∧ forI l j B K s = some r := ⟨b, k, rfl, rfl, h⟩
theorem forN_some {σ β : Type} {n : Nat} {i : Int} {b : Int → (σ → Option β) → σ → Option β} {k : Int → σ → Option β} {s : σ} {r : β} (h : forN n i b k s = some r) :
    ∃ B K, B = b ∧ K = k ∧ forN n i B K s = some r := ⟨b, k, rfl, rfl, h⟩
theorem whl_some {σ β : Type} {f : (σ → Option β) → σ → Option β} {s : σ} {r : β} (h : whl f s = some r) : ∃ F n, F = f ∧ iter F n s = some r := ⟨f, _, rfl, h⟩
theorem elO_some {α : Type} [Inhabited α] {l : List α} {i : Int} {x : α} (h : elO l i = some x) : (0 ≤ i ∧ i < l.length) ∧ el l i = x := by
  unfold elO at h
  split at h
  · rename_i h0
    obtain ⟨h1, h2⟩ := List.getElem?_eq_some_iff.1 h
    refine ⟨⟨h0, by omega⟩, ?_⟩
    simp [el, List.getD_eq_getElem?_getD, h]
  · cases h
theorem elO_nat {α : Type} {l : List α} {j : Nat} {x : α} (h : l[j]? = some x) : elO l (j : Int) = some x := by
  unfold elO; rw [if_pos (by omega)]; simpa using h
theorem setO_some {α : Type} {l m : List α} {i : Int} {x : α} (h : setO l i x = some m) : (0 ≤ i ∧ i < l.length) ∧ l.set i.toNat x = m := by
  unfold setO at h
  split at h
  · exact ⟨‹_›, some_inj h⟩
  · cases h
theorem appO_some {α : Type} {l r m : List α} (h : appO l r = some m) : l.length + r.length ≤ cap ∧ l ++ r = m := by
  unfold appO at h
  split at h
  · exact ⟨‹_›, some_inj h⟩
  · cases h
theorem sliO_some {α : Type} {l m : List α} {a b : Int} (h : sliO l a b = some m) : (0 ≤ a ∧ a ≤ b ∧ b ≤ l.length) ∧ (l.take b.toNat).drop a.toNat = m := by
  unfold sliO at h
  split at h
  · exact ⟨‹_›, some_inj h⟩
  · cases h

/-! ## how the values of a type are laid in memory -/
structure En (α : Type) where
  enc : α → List AV
  sz : Nat
  hz : ∀ r, (enc r).length = sz
  one : ∀ r, (enc r).all AV.one = true
  cl : ∀ r, closedL (enc r) = true
def ml {α : Type} (e : En α) (l : List α) : List (List AV) := l.map e.enc
theorem ml_length {α : Type} (e : En α) (l : List α) : (ml e l).length = l.length := by simp [ml]
theorem ml_sz {α : Type} (e : En α) (l : List α) : ∀ x ∈ ml e l, x.length = e.sz := fun x hx => by
  obtain ⟨r, _, rfl⟩ := List.mem_map.1 hx; exact e.hz r
theorem ml_one {α : Type} (e : En α) (l : List α) : (ml e l).flatten.all AV.one = true := one_map e.enc e.one l
def eInt : En Int := ⟨encI, 1, fun _ => rfl, fun _ => rfl, fun _ => rfl⟩
def eK (k : IntKind) : En Int := ⟨fun n => [.int k n], 1, fun _ => rfl, fun _ => rfl, fun _ => rfl⟩
def eBool : En Bool := ⟨fun b => [.bool b], 1, fun _ => rfl, fun _ => rfl, fun _ => rfl⟩
def eStr : En ByteArray := ⟨fun s => [.str s], 1, fun _ => rfl, fun _ => rfl, fun _ => rfl⟩
def eL {α : Type} (e : En α) : En (List α) := ⟨fun l => [.lst false (ml e l)], 1, fun _ => rfl, fun _ => rfl, fun _ => rfl⟩

/-- a place in a list of rows -/
def Ix (sz : Nat) (xs : List (List AV)) (i : Int) (row : List AV) : Prop := (∀ e ∈ xs, e.length = sz) ∧ 0 ≤ i ∧ i < xs.length ∧ el xs i = row
theorem ix {α : Type} (e : En α) {l : List α} {i : Int} {x : α} (h : elO l i = some x) : Ix e.sz (ml e l) i (e.enc x) := by
  refine ⟨ml_sz e l, ?_⟩
  unfold elO at h
  split at h
  · rename_i h0
    obtain ⟨h1, h2⟩ := List.getElem?_eq_some_iff.1 h
    exact ⟨h0, by rw [ml_length]; omega, by simp [ml, el, List.getD_eq_getElem?_getD, h]⟩
  · cases h
/-- an append -/
def Ap (sz bytes : Nat) (xs ys zs : List (List AV)) : Prop :=
  xs ++ ys = zs ∧ (∀ e ∈ xs, e.length = sz) ∧ (∀ e ∈ ys, e.length = sz) ∧ ys.flatten.all AV.one = true ∧ (xs.length + ys.length) * bytes ≤ 140737488355328 ∧ xs.length + ys.length ≤ maxLen
theorem ap {α : Type} (e : En α) {bytes : Nat} (hb : bytes ≤ 256) {l r m : List α} (h : appO l r = some m) : Ap e.sz bytes (ml e l) (ml e r) (ml e m) := by
  obtain ⟨h1, h2⟩ := appO_some h
  unfold cap at h1
  refine ⟨by rw [← h2]; simp [ml], ml_sz e l, ml_sz e r, ml_one e r, ?_, ?_⟩
  · rw [ml_length, ml_length]
    exact Nat.le_trans (Nat.mul_le_mul_left _ hb) (by omega)
  · rw [ml_length, ml_length]; unfold maxLen; omega
/-- a store into a place of a list -/
def St (sz : Nat) (xs : List (List AV)) (i : Int) (off : Nat) (ca : List AV) (zs : List (List AV)) : Prop :=
  Ix sz xs i (el xs i) ∧ zs = xs.set i.toNat (spliceA (el xs i) off ca)
theorem st {α : Type} [Inhabited α] (e : En α) {l m : List α} {i : Int} {x y : α} {off : Nat} {ca : List AV} (hx : elO l i = some x) (h : setO l i y = some m) (hc : spliceA (e.enc x) off ca = e.enc y) : St e.sz (ml e l) i off ca (ml e m) := by
  have h1 := ix e hx
  obtain ⟨h2, h3, h4, h5⟩ := h1
  refine ⟨⟨h2, h3, h4, rfl⟩, ?_⟩
  rw [h5, hc, ← (setO_some h).2]
  simp [ml, List.map_set]
/-- a part of a list -/
def Sl (sz : Nat) (xs : List (List AV)) (a b : Int) (zs : List (List AV)) : Prop := (∀ e ∈ xs, e.length = sz) ∧ (0 ≤ a ∧ a ≤ b ∧ b ≤ xs.length) ∧ (xs.take b.toNat).drop a.toNat = zs
theorem sl {α : Type} (e : En α) {l m : List α} {a b : Int} (h : sliO l a b = some m) : Sl e.sz (ml e l) a b (ml e m) := by
  obtain ⟨h1, h2⟩ := sliO_some h
  exact ⟨ml_sz e l, by rw [ml_length]; exact h1, by rw [← h2]; simp [ml, List.map_drop, List.map_take]⟩

/-- maps from numbers -/
def vI (k : IntKind) (n : Int) : AV := .int k n
def vB (b : Bool) : AV := .bool b
def Lk (P : Program) (E : Nat) (k : IntKind) (ents : List (AV × AV)) (n : Int) (a : AV) (b : Bool) : Prop := ∃ (α : Type) (l : List (Int × α)) (enc : α → AV) (z : α),
  ents = encM k enc l ∧ a = enc ((getI l n).getD z) ∧ b = (getI l n).isSome ∧ (∀ w, ∃ v, (zeroValue E).run P w = .ok v w ∧ ∀ I, RepC I (enc z) v)
def Mu (k : IntKind) (ents : List (AV × AV)) (n : Int) (v : AV) (ents' : List (AV × AV)) : Prop := ∃ (α : Type) (l : List (Int × α)) (enc : α → AV) (x : α), ents = encM k enc l ∧ v = enc x ∧ (enc x).closed = true ∧ ents' = encM k enc (setI l n x)
def Lm (k : IntKind) (ents : List (AV × AV)) (n : Int) : Prop := ∃ (α : Type) (l : List (Int × α)) (enc : α → AV), ents = encM k enc l ∧ n = l.length
theorem lk {P : Program} {E : Nat} {k : IntKind} {α : Type} {enc : α → AV} (l : List (Int × α)) (n : Int) (z : α) (hz : ∀ w, ∃ v, (zeroValue E).run P w = .ok v w ∧ ∀ I, RepC I (enc z) v) : Lk P E k (encM k enc l) n (enc ((getI l n).getD z)) (getI l n).isSome := ⟨α, l, enc, z, rfl, rfl, rfl, hz⟩
theorem mu {k : IntKind} {α : Type} {enc : α → AV} (l : List (Int × α)) (n : Int) (x : α) (hc : (enc x).closed = true) : Mu k (encM k enc l) n (enc x) (encM k enc (setI l n x)) := ⟨α, l, enc, x, rfl, rfl, hc, rfl⟩
theorem lm {k : IntKind} {α : Type} {enc : α → AV} (l : List (Int × α)) : Lm k (encM k enc l) (l.length : Int) := ⟨α, l, enc, rfl, rfl⟩
def LBn : Nat → List (List AV) → Prop
  | 0, xs => xs.length ≤ maxLen
  | n + 1, xs => xs.length ≤ maxLen ∧ ∀ e ∈ xs, ∀ f ys, AV.lst f ys ∈ e → LBn n ys
def LB (xs : List (List AV)) : Prop := ∀ n, LBn n xs
theorem LB.len {xs : List (List AV)} (h : LB xs) : xs.length ≤ maxLen := h 0
theorem LB.el {α : Type} {e : En α} {l : List α} {i : Int} {x : α} (h : LB (ml e l)) (hx : elO l i = some x) {k : Nat} {f : Bool} {ys : List (List AV)} (hy : (e.enc x)[k]? = some (.lst f ys)) : LB ys := fun n => by
  refine (h (n + 1)).2 (e.enc x) ?_ f ys (List.mem_of_getElem? hy)
  unfold elO at hx
  split at hx
  · exact List.mem_map.2 ⟨x, List.mem_of_getElem? hx, rfl⟩
  · cases hx
theorem w64_id {n : Int} (h1 : -9223372036854775808 ≤ n) (h2 : n ≤ 9223372036854775807) : w64 n = n := inK_i64 h1 h2
theorem inc {α : Type} {e : En α} {l : List α} {j : Nat} {x : α} (h : l[j]? = some x) (hb : LB (ml e l)) : AV.int .i64 (IntKind.wrap .i64 ((j : Int) + 1)) = .int .i64 ((j + 1 : Nat) : Int) := by
  obtain ⟨h1, _⟩ := List.getElem?_eq_some_iff.1 h
  have hb := hb.len
  rw [ml_length] at hb
  unfold maxLen at hb
  rw [show IntKind.wrap .i64 ((j : Int) + 1) = (j : Int) + 1 from inK_i64 (by omega) (by omega)]; rfl
theorem incN {i hi : Int} (h0 : -9223372036854775808 ≤ i) (h : i < hi) (hb : hi ≤ 9223372036854775807) : AV.int .i64 (IntKind.wrap .i64 (i + 1)) = .int .i64 (i + 1) := by
  rw [show IntKind.wrap .i64 (i + 1) = i + 1 from inK_i64 (by omega) (by omega)]
theorem lnE {α : Type} (e : En α) (l : List α) : AV.int .i64 ((ml e l).length : Int) = .int .i64 (l.length : Int) := by rw [ml_length]
end Go.Proofs.Ytggbjbcgfelgiaa
