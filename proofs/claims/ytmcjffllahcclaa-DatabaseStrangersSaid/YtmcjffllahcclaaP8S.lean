/- Plain: streams of bits and what adverts are written as, by both. No condition but those that stand in each. -/
import Derived.Test.YtmcjffllahcclaaP8V
import Derived.Test.YtmcjffllahcclaaDA
import GoSem.Extern.BytealgCompare
namespace Go.Proofs.Ytmcjffllahcclaa
set_option linter.all false
open Go

def numB : List Int → Nat := List.foldl (fun a b => a * 256 + b.toNat) 0
theorem numB_app (l : List Int) (b : Int) : numB (l ++ [b]) = numB l * 256 + b.toNat := by simp [numB]
theorem last_of {α : Type} : ∀ {l : List α}, l ≠ [] → ∃ i b, l = i ++ [b] := fun {l} h => ⟨l.dropLast, l.getLast h, (List.dropLast_concat_getLast h).symm⟩
theorem numB_inj : ∀ (n : Nat) (l m : List Int), l.length = n → m.length = n → (∀ b ∈ l, 0 ≤ b ∧ b < 256) → (∀ b ∈ m, 0 ≤ b ∧ b < 256) → numB l = numB m → l = m
  | 0, l, m, h1, h2, _, _, _ => by simp at h1 h2; rw [h1, h2]
  | n + 1, l, m, h1, h2, hl, hm, h => by
    obtain ⟨i, b, rfl⟩ := last_of (l := l) (by intro e; simp [e] at h1)
    obtain ⟨j, c, rfl⟩ := last_of (l := m) (by intro e; simp [e] at h2)
    rw [numB_app, numB_app] at h
    have hb := hl b (by simp)
    have hc := hm c (by simp)
    have e1 : b = c := by omega
    have e2 : numB i = numB j := by omega
    subst e1
    rw [numB_inj n i j (by simpa using h1) (by simpa using h2) (fun x hx => hl x (by simp [hx])) (fun x hx => hm x (by simp [hx])) e2]
/-- bytes that hold the B bits of a number V -/
structure SR (D : List Int) (B V : Nat) : Prop where
  by_ : ∀ b ∈ D, 0 ≤ b ∧ b < 256
  le : B ≤ 8 * D.length
  hi : 8 * D.length ≤ B + 8
  num : numB D = V * 2 ^ (8 * D.length - B)
theorem SR.unique {D E : List Int} {B V : Nat} (h1 : SR D B V) (h2 : SR E B V) (a : 8 * D.length < B + 8) (b : 8 * E.length < B + 8) : D = E := by
  have e : D.length = E.length := by have := h1.le; have := h2.le; omega
  exact numB_inj _ D E rfl e.symm h1.by_ h2.by_ (by rw [h1.num, h2.num, e])
theorem SR.nil : SR [] 0 0 := ⟨by simp, by simp, by simp, by simp [numB]⟩
theorem SR.last {D : List Int} {b : Int} {B V : Nat} (h : SR (D ++ [b]) B V) (hf : B < 8 * (D.length + 1)) : 0 ≤ b ∧ b < 256 ∧ b.toNat % 2 ^ (8 * (D.length + 1) - B) = 0 := by
  have hb := h.by_ b (by simp)
  refine ⟨hb.1, hb.2, ?_⟩
  have hn := h.num
  have hh := h.hi
  simp only [List.length_append, List.length_cons, List.length_nil, Nat.zero_add] at hn hh
  rw [numB_app] at hn
  generalize hk : 8 * (D.length + 1) - B = k at hn ⊢
  have h1 : (256 : Nat) = 2 ^ k * 2 ^ (8 - k) := by rw [← Nat.pow_add, show k + (8 - k) = 8 by omega]
  have h2 : (numB D * 256 + b.toNat) % 2 ^ k = 0 := by rw [hn]; exact Nat.mul_mod_left _ _
  rw [h1, ← Nat.mul_assoc, Nat.mul_right_comm, Nat.mul_add_mod'] at h2
  exact h2
theorem SR.push {D : List Int} {b : Int} {B V k x : Nat} (h : SR (D ++ [b]) B V) (hk : 1 ≤ k) (hf : B + k ≤ 8 * (D.length + 1)) (hx : x < 2 ^ k) :
    SR (D ++ [b + (x * 2 ^ (8 * (D.length + 1) - B - k) : Nat)]) (B + k) (V * 2 ^ k + x) ∧ b.toNat + x * 2 ^ (8 * (D.length + 1) - B - k) < 256 ∧ x * 2 ^ (8 * (D.length + 1) - B - k) < 2 ^ (8 * (D.length + 1) - B) := by
  obtain ⟨b0, b1, b2⟩ := h.last (by omega)
  have hh := h.hi
  simp only [List.length_append, List.length_cons, List.length_nil, Nat.zero_add] at hh
  generalize hf0 : 8 * (D.length + 1) - B = f at b2 ⊢
  have hx2 : x * 2 ^ (f - k) < 2 ^ f := by
    have : 2 ^ f = 2 ^ k * 2 ^ (f - k) := by rw [← Nat.pow_add, show k + (f - k) = f by omega]
    rw [this]; exact Nat.mul_lt_mul_of_pos_right hx (Nat.two_pow_pos _)
  have hlt : b.toNat + x * 2 ^ (f - k) < 256 := by
    have e1 : (256 : Nat) = 2 ^ f * 2 ^ (8 - f) := by rw [← Nat.pow_add, show f + (8 - f) = 8 by omega]
    obtain ⟨q, hq⟩ := Nat.dvd_of_mod_eq_zero b2
    have hb8 : b.toNat < 2 ^ f * 2 ^ (8 - f) := by rw [← e1]; omega
    rw [hq] at hb8 ⊢
    have hq8 : q < 2 ^ (8 - f) := Nat.lt_of_mul_lt_mul_left hb8
    rw [e1]
    have s1 : 2 ^ f * (q + 1) ≤ 2 ^ f * 2 ^ (8 - f) := Nat.mul_le_mul_left _ hq8
    rw [Nat.mul_add, Nat.mul_one] at s1
    omega
  refine ⟨⟨?_, by simp; omega, by simp; omega, ?_⟩, hlt, hx2⟩
  · intro y hy
    rcases List.mem_append.1 hy with hy | hy
    · exact h.by_ y (by simp [hy])
    · simp only [List.mem_singleton] at hy; omega
  · have hn := h.num
    simp only [List.length_append, List.length_cons, List.length_nil, Nat.zero_add] at hn ⊢
    rw [numB_app] at hn ⊢
    rw [hf0] at hn
    rw [show 8 * (D.length + 1) - (B + k) = f - k by omega]
    have e : (b + (x * 2 ^ (f - k) : Nat)).toNat = b.toNat + x * 2 ^ (f - k) := by omega
    rw [e, Nat.add_mul, Nat.mul_assoc, ← Nat.pow_add, show k + (f - k) = f by omega]
    omega
def cmpU : List UInt8 → List UInt8 → Int
  | [], [] => 0
  | [], _ :: _ => -1
  | _ :: _, [] => 1
  | a :: x, b :: y => if a = b then cmpU x y else if a < b then -1 else 1
/-- a stream that holds the B bits of V -/
structure Str (s : GStream) (B V : Nat) : Prop where
  b : s.Bits = B
  r : SR s.Data B V
  t : 8 * s.Data.length < B + 8
theorem Str.nil : Str (GStream.mk [] 0) 0 0 := ⟨rfl, SR.nil, by simp⟩
theorem Str.unique {s u : GStream} {B V : Nat} (h1 : Str s B V) (h2 : Str u B V) : s = u := by
  have := h1.r.unique h2.r h1.t h2.t
  obtain ⟨d, n⟩ := s
  obtain ⟨e, m⟩ := u
  have a := h1.b; have b := h2.b
  simp only at this a b
  subst this; rw [a, b]
theorem Str.split {s : GStream} {B V : Nat} (h : Str s B V) (hf : 8 * s.Data.length ≠ B) : ∃ i b, s.Data = i ++ [b] ∧ 8 * (i.length + 1) = 8 * s.Data.length := by
  have := h.r.le
  obtain ⟨i, b, e⟩ := last_of (l := s.Data) (by intro e; simp [e] at *; omega)
  exact ⟨i, b, e, by rw [e]; simp⟩
/-- fields, one behind the other -/
def valF : Nat → List (Nat × Nat) → Nat
  | a, [] => a
  | a, (v, w) :: r => valF (a * 2 ^ w + v) r
def widF : List (Nat × Nat) → Nat
  | [] => 0
  | (_, w) :: r => w + widF r
end Go.Proofs.Ytmcjffllahcclaa
