/- Plain: streams of bits and what adverts are written as, by both. No condition but those that stand in each. -/
import Derived.Test.YtmcjffllahcclaaGreatP8V
import Derived.Test.YtmcjffllahcclaaGreatDA
import GoSem.Extern.BytealgCompare
namespace Go.Proofs.YtmcjffllahcclaaGreat
set_option linter.all false
open Go

def numB : List Int → Nat := List.foldl (fun a b => a * 256 + b.toNat) 0
theorem numB_app (l : List Int) (b : Int) : numB (l ++ [b]) = numB l * 256 + b.toNat := by simp [numB]
theorem last_of {α : Type} : ∀ {l : List α}, l ≠ [] → ∃ i b, l = i ++ [b] := fun {l} h => ⟨l.dropLast, l.getLast h, (List.dropLast_concat_getLast h).symm⟩
theorem numB_inj : ∀ (n : Nat) (l m : List Int), l.length = n → m.length = n → (∀ b ∈ l, 0 ≤ b ∧ b < 256) → (∀ b ∈ m, 0 ≤ b ∧ b < 256) → numB l = numB m → l = m
  | 0, l, m, h1, h2, _, _, _ => by simp at h1 h2; rw [h1, h2]
  | n + 1, l, m, h1, h2, hl, hm, h => by
    obtain ⟨i, b, rfl⟩ := last_of (l := l) (by intro e; simp [e] at h1)
    obtain ⟨j, c, rfl⟩ := last_of (l := m) (by intro e; simp [e] at h2)
    rw [numB_app, numB_app] at h
    have hb := hl b (by simp)
    have hc := hm c (by simp)
    have e1 : b = c := by omega
    have e2 : numB i = numB j := by omega
    subst e1
    rw [numB_inj n i j (by simpa using h1) (by simpa using h2) (fun x hx => hl x (by simp [hx])) (fun x hx => hm x (by simp [hx])) e2]
/-- bytes that hold the B bits of a number V -/
structure SR (D : List Int) (B V : Nat) : Prop where
  by_ : ∀ b ∈ D, 0 ≤ b ∧ b < 256
  le : B ≤ 8 * D.length
  hi : 8 * D.length ≤ B + 8
  num : numB D = V * 2 ^ (8 * D.length - B)
theorem SR.unique {D E : List Int} {B V : Nat} (h1 : SR D B V) (h2 : SR E B V) (a : 8 * D.length < B + 8) (b : 8 * E.length < B + 8) : D = E := by
  have e : D.length = E.length := by have := h1.le; have := h2.le; omega
  exact numB_inj _ D E rfl e.symm h1.by_ h2.by_ (by rw [h1.num, h2.num, e])
theorem SR.nil : SR [] 0 0 := ⟨by simp, by simp, by simp, by simp [numB]⟩
theorem SR.more {D : List Int} {B V : Nat} (h : SR D B V) (h8 : 8 * D.length = B) : SR (D ++ [0]) B V := by
  refine ⟨?_, by simp; omega, by simp; omega, ?_⟩
  · intro b hb
    rcases List.mem_append.1 hb with hb | hb
    · exact h.by_ b hb
    · simp at hb; omega
  · rw [numB_app, h.num]
    have e : 8 * (D ++ [(0:Int)]).length - B = 8 := by simp; omega
    rw [e]
    have e2 : 8 * D.length - B = 0 := by omega
    rw [e2]; simp
theorem SR.last {D : List Int} {b : Int} {B V : Nat} (h : SR (D ++ [b]) B V) (hf : B < 8 * (D.length + 1)) : 0 ≤ b ∧ b < 256 ∧ b.toNat % 2 ^ (8 * (D.length + 1) - B) = 0 := by
  have hb := h.by_ b (by simp)
  refine ⟨hb.1, hb.2, ?_⟩
  have hn := h.num
  have hh := h.hi
  simp only [List.length_append, List.length_cons, List.length_nil, Nat.zero_add] at hn hh
  rw [numB_app] at hn
  generalize hk : 8 * (D.length + 1) - B = k at hn ⊢
  have h1 : (256 : Nat) = 2 ^ k * 2 ^ (8 - k) := by rw [← Nat.pow_add, show k + (8 - k) = 8 by omega]
  have h2 : (numB D * 256 + b.toNat) % 2 ^ k = 0 := by rw [hn]; exact Nat.mul_mod_left _ _
  rw [h1, ← Nat.mul_assoc, Nat.mul_right_comm, Nat.mul_add_mod'] at h2
  exact h2
theorem SR.push {D : List Int} {b : Int} {B V k x : Nat} (h : SR (D ++ [b]) B V) (hk : 1 ≤ k) (hf : B + k ≤ 8 * (D.length + 1)) (hx : x < 2 ^ k) :
    SR (D ++ [b + (x * 2 ^ (8 * (D.length + 1) - B - k) : Nat)]) (B + k) (V * 2 ^ k + x) ∧ b.toNat + x * 2 ^ (8 * (D.length + 1) - B - k) < 256 ∧ x * 2 ^ (8 * (D.length + 1) - B - k) < 2 ^ (8 * (D.length + 1) - B) := by
  obtain ⟨b0, b1, b2⟩ := h.last (by omega)
  have hh := h.hi
  simp only [List.length_append, List.length_cons, List.length_nil, Nat.zero_add] at hh
  generalize hf0 : 8 * (D.length + 1) - B = f at b2 ⊢
  have hx2 : x * 2 ^ (f - k) < 2 ^ f := by
    have : 2 ^ f = 2 ^ k * 2 ^ (f - k) := by rw [← Nat.pow_add, show k + (f - k) = f by omega]
    rw [this]; exact Nat.mul_lt_mul_of_pos_right hx (Nat.two_pow_pos _)
  have hlt : b.toNat + x * 2 ^ (f - k) < 256 := by
    have e1 : (256 : Nat) = 2 ^ f * 2 ^ (8 - f) := by rw [← Nat.pow_add, show f + (8 - f) = 8 by omega]
    obtain ⟨q, hq⟩ := Nat.dvd_of_mod_eq_zero b2
    have hb8 : b.toNat < 2 ^ f * 2 ^ (8 - f) := by rw [← e1]; omega
    rw [hq] at hb8 ⊢
    have hq8 : q < 2 ^ (8 - f) := Nat.lt_of_mul_lt_mul_left hb8
    rw [e1]
    have s1 : 2 ^ f * (q + 1) ≤ 2 ^ f * 2 ^ (8 - f) := Nat.mul_le_mul_left _ hq8
    rw [Nat.mul_add, Nat.mul_one] at s1
    omega
  refine ⟨⟨?_, by simp; omega, by simp; omega, ?_⟩, hlt, hx2⟩
  · intro y hy
    rcases List.mem_append.1 hy with hy | hy
    · exact h.by_ y (by simp [hy])
    · simp only [List.mem_singleton] at hy; omega
  · have hn := h.num
    simp only [List.length_append, List.length_cons, List.length_nil, Nat.zero_add] at hn ⊢
    rw [numB_app] at hn ⊢
    rw [hf0] at hn
    rw [show 8 * (D.length + 1) - (B + k) = f - k by omega]
    have e : (b + (x * 2 ^ (f - k) : Nat)).toNat = b.toNat + x * 2 ^ (f - k) := by omega
    rw [e, Nat.add_mul, Nat.mul_assoc, ← Nat.pow_add, show k + (f - k) = f by omega]
    omega
theorem or_add {b y f : Nat} (hb : b % 2 ^ f = 0) (hy : y < 2 ^ f) : b ||| y = b + y := by
  obtain ⟨q, rfl⟩ := Nat.dvd_of_mod_eq_zero hb
  rw [Nat.mul_comm, ← Nat.shiftLeft_eq, Nat.shiftLeft_add_eq_or_of_lt hy]
theorem wrapU8 (n : Int) : IntKind.wrap .u8 n = n % 256 := rfl
theorem wrapU64 (n : Int) : IntKind.wrap .u64 n = n % 18446744073709551616 := rfl
theorem wU8 {n : Nat} (h : n < 256) : IntKind.wrap .u8 (n : Int) = n := by rw [wrapU8]; omega
theorem wU64 {n : Nat} (h : n < 18446744073709551616) : IntKind.wrap .u64 (n : Int) = n := by rw [wrapU64]; omega
theorem or8 {a b : Nat} (ha : a < 256) (hb : b < 256) : bitsI .or .u8 a b = ((a ||| b : Nat) : Int) := by
  show IntKind.wrap .u8 ((BitVec.ofNat 8 a ||| BitVec.ofNat 8 b).toNat : Int) = _
  rw [BitVec.toNat_or, BitVec.toNat_ofNat, BitVec.toNat_ofNat, Nat.mod_eq_of_lt (show a < 2 ^ 8 from ha), Nat.mod_eq_of_lt (show b < 2 ^ 8 from hb)]
  exact wU8 (Nat.or_lt_two_pow (n := 8) ha hb)
theorem and8 {a b : Nat} (ha : a < 256) (hb : b < 256) : bitsI .and .u8 a b = ((a &&& b : Nat) : Int) := by
  show IntKind.wrap .u8 ((BitVec.ofNat 8 a &&& BitVec.ofNat 8 b).toNat : Int) = _
  rw [BitVec.toNat_and, BitVec.toNat_ofNat, BitVec.toNat_ofNat, Nat.mod_eq_of_lt (show a < 2 ^ 8 from ha), Nat.mod_eq_of_lt (show b < 2 ^ 8 from hb)]
  exact wU8 (Nat.lt_of_le_of_lt Nat.and_le_left ha)
theorem and64 {a b : Nat} (ha : a < 2 ^ 64) (hb : b < 2 ^ 64) : bitsI .and .u64 a b = ((a &&& b : Nat) : Int) := by
  show IntKind.wrap .u64 ((BitVec.ofNat 64 a &&& BitVec.ofNat 64 b).toNat : Int) = _
  rw [BitVec.toNat_and, BitVec.toNat_ofNat, BitVec.toNat_ofNat, Nat.mod_eq_of_lt ha, Nat.mod_eq_of_lt hb]
  exact wU64 (Nat.lt_of_le_of_lt Nat.and_le_left ha)
theorem and1_8 {a : Nat} (ha : a < 256) : bitsI .and .u8 a 1 = ((a % 2 : Nat) : Int) := by
  have := and8 ha (show 1 < 256 by decide)
  rw [Nat.and_one_is_mod] at this; exact this
theorem and1_64 {a : Nat} (ha : a < 2 ^ 64) : bitsI .and .u64 a 1 = ((a % 2 : Nat) : Int) := by
  have := and64 ha (show 1 < 2 ^ 64 by decide)
  rw [Nat.and_one_is_mod] at this; exact this
theorem mask64 {a k : Nat} (ha : a < 2 ^ 64) (hk : k < 64) : bitsI .and .u64 a ((2 ^ k - 1 : Nat) : Int) = ((a % 2 ^ k : Nat) : Int) := by
  have hb : 2 ^ k - 1 < 2 ^ 64 := by have := Nat.pow_lt_pow_right (show 1 < 2 by decide) hk; omega
  rw [and64 ha hb, Nat.and_two_pow_sub_one_eq_mod]
theorem fdivN (a k : Nat) : Int.fdiv (a : Int) (2 ^ k) = ((a / 2 ^ k : Nat) : Int) := by
  have : ((2 : Int) ^ k) = ((2 ^ k : Nat) : Int) := by norm_cast
  rw [this, Int.fdiv_eq_ediv_of_nonneg _ (Int.natCast_nonneg _)]; rfl
def cmpU : List UInt8 → List UInt8 → Int
  | [], [] => 0
  | [], _ :: _ => -1
  | _ :: _, [] => 1
  | a :: x, b :: y => if a = b then cmpU x y else if a < b then -1 else 1
theorem get_ba (l : List UInt8) (i : Nat) : (⟨l.toArray⟩ : ByteArray)[i]! = l[i]! := by
  by_cases h : i < l.length
  · rw [getElem!_pos l i h, getElem!_pos (⟨l.toArray⟩ : ByteArray) i (by show i < l.toArray.size; simpa using h)]; rfl
  · rw [getElem!_neg l i h, getElem!_neg (⟨l.toArray⟩ : ByteArray) i (by show ¬ i < l.toArray.size; simpa using h)]
theorem cmp_cmpU : ∀ (x y : List UInt8), Go.Extern.BytealgCompare.cmp ⟨x.toArray⟩ ⟨y.toArray⟩ = cmpU x y := by
  intro x y
  unfold Go.Extern.BytealgCompare.cmp
  simp only [get_ba]
  show (match (List.range (min x.length y.length)).find? fun i => x[i]! != y[i]! with
    | some i => if x[i]! < y[i]! then -1 else 1
    | none => if x.length < y.length then -1 else if x.length > y.length then 1 else 0) = cmpU x y
  induction x generalizing y with
  | nil => cases y <;> simp [cmpU]
  | cons a x ih =>
    cases y with
    | nil => simp [cmpU]
    | cons b y =>
      simp only [cmpU, List.length_cons]
      rw [show min (x.length + 1) (y.length + 1) = min x.length y.length + 1 by omega, List.range_succ_eq_map, List.find?_cons]
      by_cases h : a = b
      · subst h
        rw [if_pos rfl, ← ih]
        simp only [List.getElem!_cons_zero, bne_self_eq_false, List.find?_map, Function.comp_def, Nat.succ_eq_add_one, List.getElem!_cons_succ]
        cases (List.range (min x.length y.length)).find? (fun i => x[i]! != y[i]!) <;> simp
      · rw [if_neg h]
        have e : ((a :: x)[0]! != (b :: y)[0]!) = true := by simpa using h
        simp only [e]
        simp
theorem less_iff : ∀ (x y : List UInt8), 0 < cmpU x y ↔ (Go.Op.bytesLess x y = false ∧ x ≠ y)
  | [], [] => by simp [Go.Op.bytesLess, cmpU]
  | [], _ :: _ => by simp [Go.Op.bytesLess, cmpU]
  | _ :: _, [] => by simp [Go.Op.bytesLess, cmpU]
  | a :: x, b :: y => by
    simp only [Go.Op.bytesLess, cmpU]
    by_cases h : a = b
    · subst h
      rw [if_pos rfl, less_iff x y]
      have : ¬ a < a := UInt8.lt_irrefl a
      simp [this]
    · rw [if_neg h]
      by_cases h2 : a < b
      · simp [h2]
      · simp [h2, h]
theorem less_cmpU (x y : List UInt8) : (!(Go.Op.bytesLess x y || x == y)) = decide (0 < cmpU x y) := by
  rw [Bool.eq_iff_iff, decide_eq_true_iff, less_iff]
  cases Go.Op.bytesLess x y <;> simp
theorem cmpU_refl : ∀ x : List UInt8, cmpU x x = 0
  | [] => rfl
  | a :: x => by simp [cmpU, cmpU_refl x]
theorem cmpU_swap : ∀ x y : List UInt8, cmpU y x = - cmpU x y
  | [], [] => rfl
  | [], _ :: _ => rfl
  | _ :: _, [] => rfl
  | a :: x, b :: y => by
    simp only [cmpU]
    by_cases h : a = b
    · subst h; simp [cmpU_swap x y]
    · rw [if_neg h, if_neg (Ne.symm h)]
      by_cases h2 : a < b
      · rw [if_pos h2, if_neg (by intro h3; exact UInt8.lt_irrefl _ (UInt8.lt_trans h2 h3))]; rfl
      · rw [if_neg h2, if_pos (by
          rcases Nat.lt_trichotomy a.toNat b.toNat with h3 | h3 | h3
          · exact absurd (UInt8.lt_iff_toNat_lt.2 h3) h2
          · exact absurd (UInt8.toNat_inj.1 h3) h
          · exact UInt8.lt_iff_toNat_lt.2 h3)]
theorem cmpU_eq : ∀ {x y : List UInt8}, cmpU x y = 0 → x = y
  | [], [], _ => rfl
  | [], _ :: _, h => by simp [cmpU] at h
  | _ :: _, [], h => by simp [cmpU] at h
  | a :: x, b :: y, h => by
    simp only [cmpU] at h
    by_cases e : a = b
    · rw [if_pos e] at h; rw [e, cmpU_eq h]
    · rw [if_neg e] at h; split at h <;> simp at h
theorem cmpU_trans : ∀ {x y z : List UInt8}, 0 < cmpU x y → 0 < cmpU y z → 0 < cmpU x z
  | [], [], _, h, _ => by simp [cmpU] at h
  | [], _ :: _, _, h, _ => by simp [cmpU] at h
  | _ :: _, [], z, _, h => by cases z <;> simp [cmpU] at h
  | _ :: _, _ :: _, [], _, _ => by simp [cmpU]
  | a :: x, b :: y, c :: z, h1, h2 => by
    simp only [cmpU] at h1 h2 ⊢
    by_cases e1 : a = b
    · subst e1
      rw [if_pos rfl] at h1
      by_cases e2 : a = c
      · rw [if_pos e2] at h2 ⊢; exact cmpU_trans h1 h2
      · rw [if_neg e2] at h2 ⊢; exact h2
    · rw [if_neg e1] at h1
      have g1 : ¬ a < b := by intro h; rw [if_pos h] at h1; omega
      by_cases e2 : b = c
      · subst e2
        rw [if_neg e1, if_neg g1]; omega
      · rw [if_neg e2] at h2
        have g2 : ¬ b < c := by intro h; rw [if_pos h] at h2; omega
        simp only [UInt8.lt_iff_toNat_lt] at g1 g2
        have n1 : a.toNat ≠ b.toNat := fun h => e1 (UInt8.toNat_inj.1 h)
        have n2 : b.toNat ≠ c.toNat := fun h => e2 (UInt8.toNat_inj.1 h)
        rw [if_neg (by rintro rfl; omega), if_neg (by rw [UInt8.lt_iff_toNat_lt]; omega)]; omega
/-- a stream that holds the B bits of V -/
structure Str (s : GStream) (B V : Nat) : Prop where
  b : s.Bits = B
  r : SR s.Data B V
  t : 8 * s.Data.length < B + 8
theorem Str.nil : Str (GStream.mk [] 0) 0 0 := ⟨rfl, SR.nil, by simp⟩
theorem Str.unique {s u : GStream} {B V : Nat} (h1 : Str s B V) (h2 : Str u B V) : s = u := by
  have := h1.r.unique h2.r h1.t h2.t
  obtain ⟨d, n⟩ := s
  obtain ⟨e, m⟩ := u
  have a := h1.b; have b := h2.b
  simp only at this a b
  subst this; rw [a, b]
theorem Str.split {s : GStream} {B V : Nat} (h : Str s B V) (hf : 8 * s.Data.length ≠ B) : ∃ i b, s.Data = i ++ [b] ∧ 8 * (i.length + 1) = 8 * s.Data.length := by
  have := h.r.le
  obtain ⟨i, b, e⟩ := last_of (l := s.Data) (by intro e; simp [e] at *; omega)
  exact ⟨i, b, e, by rw [e]; simp⟩
theorem elO_last {α : Type} (i : List α) (b : α) {n : Int} (h : n = i.length) : elO (i ++ [b]) n = some b := by subst h; exact elO_at i b []
theorem setO_last {α : Type} (i : List α) (b c : α) {n : Int} (h : n = i.length) : setO (i ++ [b]) n c = some (i ++ [c]) := by
  subst h
  unfold setO
  rw [if_pos ⟨by omega, by simp; omega⟩]
  simp
theorem bitio_bytes {n : Nat} (h : n ≤ 100000) : m_bitio_bytes n = some (((n + 7) / 8 : Nat) : Int) := by
  unfold m_bitio_bytes
  have e : Int.tdiv ((n : Int) + 7) 8 = (((n + 7) / 8 : Nat) : Int) := by rw [Int.tdiv_eq_ediv_of_nonneg (by omega)]; omega
  rw [w64_id (n := (n : Int) + 7) (by omega) (by omega), e, w64_id (by omega) (by omega)]
theorem bitio_valid {s : GStream} {B V : Nat} (h : Str s B V) (hB : B ≤ 8192) : m_bitio_Valid s = some true := by
  have hle := h.r.le; have ht := h.t; have hb := h.b
  refine Ok.eq ?_
  unfold m_bitio_Valid
  refine Ok.jn (fun v => v = false) (fun v hv => ?_) (fun J hJ => ?_)
  · subst hv
    rw [cond_false, hb, w64_id (n := 8 * (s.Data.length : Int)) (by omega) (by omega), w64_id (n := 8 * (s.Data.length : Int) - B) (by omega) (by omega)]
    refine Ok.cs (fun _ => Ok.s rfl) fun hc => ?_
    have hc : 8 * (s.Data.length : Int) - B ≠ 0 := by simpa using hc
    obtain ⟨i, b, hD, hi⟩ := h.split (by omega)
    have hl := h.r
    rw [hD] at hl
    obtain ⟨b0, b1, b2⟩ := hl.last (by omega)
    rw [w64_id (n := (s.Data.length : Int) - 1) (by omega) (by omega), hD, elO_last i b (by simp), bnd_s]
    have e : 8 * ((i ++ [b]).length : Int) - B = ((8 * (i.length + 1) - B : Nat) : Int) := by simp; omega
    rw [e]
    generalize hf : 8 * (i.length + 1) - B = f at b2 ⊢
    rw [w64_id (n := (8 : Int) - (f : Int)) (by omega) (by omega)]
    refine Ok.chk (by simp; omega) (Ok.s ?_)
    obtain ⟨q, hq⟩ := Nat.dvd_of_mod_eq_zero b2
    have e2 : min ((8 : Int) - f).toNat 8 = 8 - f := by omega
    rw [e2, show b = ((b.toNat : Nat) : Int) by omega, hq]
    have e3 : (((2 ^ f * q : Nat) : Int) * 2 ^ (8 - f)) = ((256 * q : Nat) : Int) := by
      have e1 : (256 : Nat) = 2 ^ f * 2 ^ (8 - f) := by rw [← Nat.pow_add, show f + (8 - f) = 8 by omega]
      rw [e1, Nat.mul_assoc, Nat.mul_comm (2 ^ (8 - f)) q, ← Nat.mul_assoc]
      push_cast; rfl
    rw [e3, wrapU8]
    simp
  · rw [hb, bitio_bytes (by omega)]
    refine Ok.cs (fun hc => by simp at hc; omega) fun _ => ?_
    refine Ok.cs (fun hc => by simp at hc; omega) fun _ => ?_
    rw [bnd_s]
    exact hJ _ (by simp; omega)
theorem bitio_write {s : GStream} {B V v n : Nat} (h : Str s B V) (hn : n ≤ 64) (hv : v < 2 ^ n) (hB : B + n ≤ 8192) : Ok (m_bitio_write s v n) (fun u => Str u (B + n) (V * 2 ^ n + v)) := by
  unfold m_bitio_write
  have hv64 : v < 2 ^ 64 := Nat.lt_of_lt_of_le hv (Nat.pow_le_pow_right (by decide) hn)
  refine Ok.whl (fun sg : Int × List Int × Int => ∃ (r k : Nat) (D : List Int), sg = ((r : Int), D, ((B + k : Nat) : Int)) ∧ r + k = n ∧ SR D (B + k) (V * 2 ^ k + v / 2 ^ r) ∧ 8 * D.length < B + k + 8) (fun sg => sg.1.toNat) ⟨n, 0, s.Data, by rw [h.b]; rfl, by simp, by
      rw [Nat.div_eq_of_lt hv]; simpa using h.r, by simpa using h.t⟩ (by simp only; omega) ?_
  rintro _ Z ⟨r, k, D, rfl, hrk, hr, ht⟩ hZ
  have hle := hr.le
  simp only
  refine Ok.cs (fun hc => ?_) fun hc => ?_
  · have hr0 : 0 < r := by simpa using hc
    rw [w64_id (n := 8 * (D.length : Int)) (by omega) (by omega), w64_id (n := 8 * (D.length : Int) - ((B + k : Nat) : Int)) (by omega) (by omega)]
    refine Ok.jn (fun sg : Int × List Int => ∃ (i : List Int) (b : Int) (f : Nat), sg = ((f : Int), i ++ [b]) ∧ SR (i ++ [b]) (B + k) (V * 2 ^ k + v / 2 ^ r) ∧ 8 * (i.length + 1) - (B + k) = f ∧ 1 ≤ f ∧ f ≤ 8) ?_ ?_
    · rintro _ ⟨i, b, f, rfl, hs, hf, hf1, hf8⟩
      simp only
      obtain ⟨m, hm⟩ : ∃ m : Nat, (if (f : Int) < r then (f : Int) else r) = m ∧ 1 ≤ m ∧ m ≤ f ∧ m ≤ r := by
        by_cases h : (f : Int) < r
        · exact ⟨f, by rw [if_pos h], by omega, by omega, by omega⟩
        · exact ⟨r, by rw [if_neg h], by omega, by omega, by omega⟩
      obtain ⟨hm, hm1, hmf, hmr⟩ := hm
      rw [hm]
      have e1 : w64 ((r : Int) - m) = ((r - m : Nat) : Int) := by rw [w64_id (by omega) (by omega)]; omega
      have e2 : w64 ((f : Int) - m) = ((f - m : Nat) : Int) := by rw [w64_id (by omega) (by omega)]; omega
      have e3 : w64 (((i ++ [b]).length : Int) - 1) = i.length := by
        have := hs.le; have := hs.hi
        simp at *
        rw [w64_id (by omega) (by omega)]
      have e4 : w64 (((B + k : Nat) : Int) + m) = ((B + (k + m) : Nat) : Int) := by rw [w64_id (by omega) (by omega)]; omega
      rw [e1, e2, e3, e4]
      refine Ok.chk (by simp) (Ok.chk (by simp) ?_)
      rw [elO_last i b rfl, bnd_s]
      refine Ok.chk (by simp) ?_
      have hsl := hs.last (by omega)
      have e5 : Int.fdiv (v : Int) (2 ^ min ((r - m : Nat) : Int).toNat 64) = ((v / 2 ^ (r - m) : Nat) : Int) := by
        rw [show min ((r - m : Nat) : Int).toNat 64 = r - m by omega, fdivN]
      have e6 : IntKind.wrap .u64 (IntKind.wrap .u64 ((1 : Int) * 2 ^ min (m : Int).toNat 64) - 1) = ((2 ^ m - 1 : Nat) : Int) := by
        rw [show min (m : Int).toNat 64 = m by omega]
        have hp : 2 ^ m ≤ 2 ^ 8 := Nat.pow_le_pow_right (by decide) (by omega)
        have hp0 : 0 < 2 ^ m := Nat.two_pow_pos m
        have : (1 : Int) * 2 ^ m = ((2 ^ m : Nat) : Int) := by push_cast; omega
        rw [this, wU64 (by omega), show ((2 ^ m : Nat) : Int) - 1 = ((2 ^ m - 1 : Nat) : Int) by omega, wU64 (by omega)]
      rw [e5, e6, mask64 (Nat.lt_of_le_of_lt (Nat.div_le_self _ _) hv64) (by omega)]
      obtain ⟨hp1, hp2, hp3⟩ := hs.push (k := m) (x := v / 2 ^ (r - m) % 2 ^ m) hm1 (by omega) (Nat.mod_lt _ (Nat.two_pow_pos _))
      rw [hf] at hp1 hp2 hp3
      generalize hx : v / 2 ^ (r - m) % 2 ^ m = x at hp1 hp2 hp3 ⊢
      have e7 : (x : Int) * 2 ^ min ((f - m : Nat) : Int).toNat 64 = ((x * 2 ^ (f - m) : Nat) : Int) := by
        rw [show min ((f - m : Nat) : Int).toNat 64 = f - m by omega]; push_cast; rfl
      have hy : x * 2 ^ (f - m) < 256 := by omega
      rw [e7, wU64 (by omega), wU8 (by omega)]
      rw [hf] at hsl
      have e8 : bitsI .or .u8 b ((x * 2 ^ (f - m) : Nat) : Int) = b + ((x * 2 ^ (f - m) : Nat) : Int) := by
        obtain ⟨hb0, hb1, hb2⟩ := hsl
        have := or8 (a := b.toNat) (b := x * 2 ^ (f - m)) (by omega) hy
        rw [show ((b.toNat : Nat) : Int) = b by omega] at this
        rw [this, or_add hb2 hp3]; omega
      rw [e8, setO_last i b _ rfl, bnd_s]
      refine hZ _ ⟨r - m, k + m, _, rfl, by omega, ?_, ?_⟩ (by simp only; omega)
      · rw [← Nat.add_assoc]
        have e9 : (V * 2 ^ k + v / 2 ^ r) * 2 ^ m + x = V * 2 ^ (k + m) + v / 2 ^ (r - m) := by
          have d1 : v / 2 ^ r = v / 2 ^ (r - m) / 2 ^ m := by rw [Nat.div_div_eq_div_mul, ← Nat.pow_add, show r - m + m = r by omega]
          rw [Nat.add_mul, Nat.mul_assoc, ← Nat.pow_add, d1, ← hx]
          have := Nat.div_add_mod (v / 2 ^ (r - m)) (2 ^ m)
          rw [Nat.mul_comm (2 ^ m)] at this
          omega
        rw [← e9]; exact hp1
      · simp; omega
    · intro J hJ
      refine Ok.cs (fun hc => ?_) fun hc => ?_
      · have hc : 8 * (D.length : Int) - ((B + k : Nat) : Int) = 0 := by simpa using hc
        rw [appO_ok (by simp; omega), bnd_s]
        exact hJ _ ⟨D, 0, 8, rfl, hr.more (by omega), by omega, by omega, by omega⟩
      · have hc : 8 * (D.length : Int) - ((B + k : Nat) : Int) ≠ 0 := by simpa using hc
        have hst : Str (GStream.mk D ((B + k : Nat) : Int)) (B + k) (V * 2 ^ k + v / 2 ^ r) := ⟨rfl, hr, ht⟩
        obtain ⟨i, b, hD, hi⟩ := hst.split (by simp only; omega)
        simp only at hD hi
        refine hJ _ ⟨i, b, 8 * D.length - (B + k), ?_, by rw [← hD]; exact hr, by omega, by omega, by omega⟩
        rw [← hD]; simp; omega
  · have hr0 : r = 0 := by simpa using hc
    subst hr0
    obtain rfl : k = n := by omega
    refine Ok.s ⟨rfl, ?_, by simpa using ht⟩
    simpa using hr
theorem bitio_append {s : GStream} {B V v n : Nat} (h : Str s B V) (hn : n ≤ 64) (hv : v < 2 ^ n) (hB : B + n ≤ 8192) : Ok (m_bitio_Append s v n) (fun u => Str u.1 (B + n) (V * 2 ^ n + v) ∧ u.2 = 0) := by
  unfold m_bitio_Append
  have hle := h.r.le; have ht := h.t; have hb := h.b
  rw [bitio_valid h (by omega), bnd_s]
  simp only [Bool.not_true, cond_false]
  refine Ok.jn (fun v => v = false) (fun v1 hv1 => ?_) fun J hJ => ?_
  · subst hv1
    rw [cond_false, hb, w64_id (by omega) (by omega)]
    refine Ok.cs (fun hc => by simp at hc; omega) fun _ => ?_
    unfold m_bitio_clone
    rw [appO_ok (by simp; omega), bnd_s, bnd_s]
    refine Ok.bnd (bitio_write (B := B) (V := V) (s := GStream.mk ([] ++ s.Data) s.Bits) ⟨hb, by simpa using h.r, by simpa using ht⟩ hn hv hB) fun u hu => Ok.s ⟨hu, rfl⟩
  · refine Ok.cs (fun hc => by simp at hc; omega) fun _ => ?_
    refine Ok.cs (fun hc => by simp at hc; omega) fun _ => ?_
    refine Ok.cs (fun hc => ?_) fun _ => hJ _ rfl
    have hn2 : n < 64 := by simp at hc; omega
    refine Ok.chk (by simp) (hJ _ ?_)
    rw [show min ((n : Nat) : Int).toNat 64 = n by omega, fdivN, Nat.div_eq_of_lt hv]; simp
theorem ref02_bit_at {i : List Int} {b : Int} {k : Nat} (h0 : 0 ≤ b) (h1 : b < 256) (hk : 8 * i.length ≤ k) (hk2 : k < 8 * (i.length + 1)) (hl : k ≤ 100000) : m_ref02_bit (i ++ [b]) (k : Int) = some ((b.toNat / 2 ^ (7 - k % 8) % 2 : Nat) : Int) := by
  unfold m_ref02_bit
  have e1 : Int.tdiv (k : Int) 8 = i.length := by rw [Int.tdiv_eq_ediv_of_nonneg (by omega)]; omega
  have e2 : Int.tmod (k : Int) 8 = ((k % 8 : Nat) : Int) := by rw [Int.tmod_eq_emod_of_nonneg (by omega)]; omega
  have e3 : (7 : Int) - ((k % 8 : Nat) : Int) = ((7 - k % 8 : Nat) : Int) := by omega
  rw [e1, e2, e3, w64_id (by omega) (by omega), elO_last i b rfl, bnd_s, w64_id (by omega) (by omega), wU64 (by omega)]
  rw [chk_t (by simp)]
  have e4 : min ((7 - k % 8 : Nat) : Int).toNat 8 = 7 - k % 8 := by omega
  have hlt : b.toNat / 2 ^ (7 - k % 8) < 256 := Nat.lt_of_le_of_lt (Nat.div_le_self _ _) (by omega)
  have e5 : Int.fdiv b (2 ^ (7 - k % 8)) = ((b.toNat / 2 ^ (7 - k % 8) : Nat) : Int) := by
    rw [← fdivN, show ((b.toNat : Nat) : Int) = b by omega]
  rw [e4, e5, wU64 (by omega), and1_64 (by omega)]
theorem ref02_valid {s : GStream} {B V : Nat} (h : Str s B V) (hB : B ≤ 8192) : m_ref02_Valid s = some true := by
  have hle := h.r.le; have ht := h.t; have hb := h.b
  refine Ok.eq ?_
  unfold m_ref02_Valid
  rw [hb]
  have e1 : Int.tdiv (w64 ((B : Int) + 7)) 8 = ((s.Data.length : Nat) : Int) := by rw [w64_id (by omega) (by omega), Int.tdiv_eq_ediv_of_nonneg (by omega)]; omega
  rw [e1, w64_id (n := (s.Data.length : Int)) (by omega) (by omega), w64_id (n := 8 * (s.Data.length : Int)) (by omega) (by omega)]
  refine Ok.cs (fun hc => by simp at hc; omega) fun _ => ?_
  refine Ok.whl (fun i : Int => (B : Int) ≤ i ∧ i ≤ 8 * s.Data.length) (fun i => (8 * (s.Data.length : Int) - i).toNat) ⟨by omega, by omega⟩ (by omega) ?_
  rintro i Z ⟨h1, h2⟩ hZ
  refine Ok.cs (fun hc => ?_) fun _ => Ok.s rfl
  have hc : i < 8 * (s.Data.length : Int) := by simpa using hc
  obtain ⟨p, b, hD, hi⟩ := h.split (by omega)
  have hl := h.r
  rw [hD] at hl
  obtain ⟨b0, b1, b2⟩ := hl.last (by omega)
  obtain ⟨k, rfl⟩ : ∃ k : Nat, i = k := ⟨i.toNat, by omega⟩
  rw [hD, ref02_bit_at b0 b1 (by omega) (by omega) (by omega), bnd_s]
  have hbit : b.toNat / 2 ^ (7 - k % 8) % 2 = 0 := by
    obtain ⟨q, hq⟩ := Nat.dvd_of_mod_eq_zero b2
    generalize hf : 8 * (p.length + 1) - B = f at hq
    have : 2 ^ f = 2 ^ (7 - k % 8) * (2 * 2 ^ (f - (7 - k % 8) - 1)) := by
      rw [← Nat.pow_succ', ← Nat.pow_add]; congr 1; omega
    rw [hq, this, Nat.mul_assoc, Nat.mul_div_cancel_left _ (Nat.two_pow_pos _), Nat.mul_assoc]
    exact Nat.mul_mod_right _ _
  rw [hbit]
  refine Ok.cs (fun hc => by simp at hc) fun _ => ?_
  rw [w64_id (by omega) (by omega)]
  exact hZ _ ⟨by omega, by omega⟩ (by omega)
theorem ref02_put {s : GStream} {B V b : Nat} (h : Str s B V) (hb1 : b < 2) (hB : B + 1 ≤ 8192) : Ok (m_ref02_Put s b) (fun u => Str u (B + 1) (V * 2 + b)) := by
  have hle := h.r.le; have ht := h.t; have hb := h.b
  unfold m_ref02_Put
  rw [hb]
  have e1 : Int.tdiv (B : Int) 8 = ((B / 8 : Nat) : Int) := by rw [Int.tdiv_eq_ediv_of_nonneg (by omega)]; omega
  have e2 : Int.tmod (B : Int) 8 = ((B % 8 : Nat) : Int) := by rw [Int.tmod_eq_emod_of_nonneg (by omega)]; omega
  have e3 : (7 : Int) - ((B % 8 : Nat) : Int) = ((7 - B % 8 : Nat) : Int) := by omega
  rw [e1, e2, e3, w64_id (by omega) (by omega), w64_id (by omega) (by omega), w64_id (by omega) (by omega), wU64 (by omega)]
  refine Ok.bnd (P := fun l => l = s.Data) ⟨_, appO_ok (by simp; omega), by simp⟩ ?_
  rintro _ rfl
  refine Ok.jn (fun l => ∃ (i : List Int) (c : Int), l = i ++ [c] ∧ SR (i ++ [c]) B V ∧ i.length = B / 8) ?_ ?_
  · rintro _ ⟨i, c, rfl, hs, hi⟩
    refine Ok.jn (fun l => SR l (B + 1) (V * 2 + b) ∧ 8 * l.length < B + 1 + 8) (fun l hl => Ok.s ⟨rfl, hl.1, hl.2⟩) fun J hJ => ?_
    obtain ⟨hp1, hp2, hp3⟩ := hs.push (k := 1) (x := b) (by omega) (by omega) (by omega)
    refine Ok.cs (fun hc => ?_) fun hc => ?_
    · have hc : b = 1 := by simp at hc; omega
      subst hc
      rw [elO_last i c (by omega), bnd_s, chk_t (by simp)]
      obtain ⟨c0, c1, c2⟩ := hs.last (by omega)
      have e5 : min ((7 - B % 8 : Nat) : Int).toNat 8 = 8 * (i.length + 1) - B - 1 := by omega
      have e6 : (1 : Int) * 2 ^ (8 * (i.length + 1) - B - 1) = ((1 * 2 ^ (8 * (i.length + 1) - B - 1) : Nat) : Int) := by push_cast; rfl
      rw [e5, e6, wU8 (by omega)]
      have e8 : bitsI .or .u8 c ((1 * 2 ^ (8 * (i.length + 1) - B - 1) : Nat) : Int) = c + ((1 * 2 ^ (8 * (i.length + 1) - B - 1) : Nat) : Int) := by
        have := or8 (a := c.toNat) (b := 1 * 2 ^ (8 * (i.length + 1) - B - 1)) (by omega) (by omega)
        rw [show ((c.toNat : Nat) : Int) = c by omega] at this
        rw [this, or_add c2 hp3]; omega
      rw [e8, setO_last i c _ (by omega), bnd_s]
      exact hJ _ ⟨by simpa using hp1, by simp; omega⟩
    · have hc : b = 0 := by simp at hc; omega
      subst hc
      refine hJ _ ⟨by simpa using hp1, by simp; omega⟩
  · intro J hJ
    refine Ok.cs (fun hc => ?_) fun hc => ?_
    · have hc : B % 8 = 0 := by simp at hc; omega
      rw [appO_ok (by simp; omega), bnd_s]
      exact hJ _ ⟨s.Data, 0, rfl, h.r.more (by omega), by omega⟩
    · have hc : B % 8 ≠ 0 := by simp at hc; omega
      obtain ⟨i, c, hD, hi⟩ := h.split (by omega)
      exact hJ _ ⟨i, c, hD, hD ▸ h.r, by omega⟩
theorem ref02_append {s : GStream} {B V v n : Nat} (h : Str s B V) (hn : n ≤ 64) (hv : v < 2 ^ n) (hB : B + n ≤ 8192) : Ok (m_ref02_Append s v n) (fun u => Str u.1 (B + n) (V * 2 ^ n + v) ∧ u.2 = 0) := by
  unfold m_ref02_Append
  have hb := h.b
  have hv64 : v < 2 ^ 64 := Nat.lt_of_lt_of_le hv (Nat.pow_le_pow_right (by decide) hn)
  rw [ref02_valid h (by omega), bnd_s]
  simp only [Bool.not_true, cond_false]
  refine Ok.jn (fun v => v = false) (fun v1 hv1 => ?_) fun J hJ => ?_
  · subst hv1
    rw [cond_false, hb, w64_id (n := (B : Int) + n) (by omega) (by omega)]
    refine Ok.cs (fun hc => by simp at hc; omega) fun _ => ?_
    refine Ok.whl (fun sg : Int × List Int × Int => ∃ (r k : Nat), sg.1 = (r : Int) - 1 ∧ r + k = n ∧ Str (GStream.mk sg.2.1 sg.2.2) (B + k) (V * 2 ^ k + v / 2 ^ r)) (fun sg => (sg.1 + 1).toNat) ⟨n, 0, by simp only; rw [w64_id (by omega) (by omega)], by simp, by
      rw [Nat.div_eq_of_lt hv]; simp only [Nat.add_zero, Nat.pow_zero, Nat.mul_one]; rw [← hb]; exact h⟩ (by simp only; rw [w64_id (by omega) (by omega)]; omega) ?_
    rintro ⟨i, D, N⟩ Z ⟨r, k, hi, hrk, hs⟩ hZ
    simp only at hi hs ⊢
    subst hi
    refine Ok.cs (fun hc => ?_) fun hc => ?_
    · have hr : 1 ≤ r := by simp at hc; omega
      have e : ((r : Int) - 1) = ((r - 1 : Nat) : Int) := by omega
      rw [e, wU64 (by omega)]
      refine Ok.chk (by simp) ?_
      rw [show min ((r - 1 : Nat) : Int).toNat 64 = r - 1 by omega, fdivN, and1_64 (Nat.lt_of_le_of_lt (Nat.div_le_self _ _) hv64)]
      refine Ok.bnd (ref02_put hs (Nat.mod_lt _ (by omega)) (by omega)) fun u hu => ?_
      rw [w64_id (by omega) (by omega)]
      refine hZ _ ⟨r - 1, k + 1, rfl, by omega, ?_⟩ (by simp only; omega)
      have e9 : (V * 2 ^ k + v / 2 ^ r) * 2 + v / 2 ^ (r - 1) % 2 = V * 2 ^ (k + 1) + v / 2 ^ (r - 1) := by
        have d1 : v / 2 ^ r = v / 2 ^ (r - 1) / 2 := by
          rw [Nat.div_div_eq_div_mul, ← Nat.pow_succ]; congr 2; omega
        rw [Nat.pow_succ, d1, Nat.add_mul, Nat.mul_assoc]
        omega
      rw [← Nat.add_assoc, ← e9]; exact hu
    · have hr : r = 0 := by simp at hc; omega
      subst hr
      obtain rfl : k = n := by omega
      refine Ok.s ⟨by simpa using hs, rfl⟩
  · refine Ok.cs (fun hc => by simp at hc; omega) fun _ => ?_
    refine Ok.cs (fun hc => by simp at hc; omega) fun _ => ?_
    refine Ok.cs (fun hc => ?_) fun _ => hJ _ rfl
    have hn2 : n < 64 := by simp at hc; omega
    rw [wU64 (by omega)]
    refine Ok.chk (by simp) (hJ _ ?_)
    rw [show min ((n : Nat) : Int).toNat 64 = n by omega, fdivN, Nat.div_eq_of_lt hv]; simp
theorem forN_congr {σ β : Type} {B B' : Int → (σ → Option β) → σ → Option β} {K K' : Int → σ → Option β} : ∀ (n : Nat) (i : Int) (s : σ), (∀ (j : Int) s Z Z', i ≤ j → j < i + n → (∀ s, Z s = Z' s) → B j Z s = B' j Z' s) → (∀ s, K (i + n) s = K' (i + n) s) → forN n i B K s = forN n i B' K' s
  | 0, i, s, _, hk => by simpa [forN] using hk s
  | n + 1, i, s, hb, hk => by
    simp only [forN]
    refine hb i s _ _ (by omega) (by omega) fun s' => ?_
    refine forN_congr n (i + 1) s' (fun j s Z Z' h1 h2 hz => hb j s Z Z' (by omega) (by omega) hz) fun s => ?_
    have := hk s
    rw [show i + 1 + (n : Int) = i + ((n + 1 : Nat) : Int) by omega]; exact this
theorem bit_eq {s : GStream} {i : Nat} (hb : ∀ b ∈ s.Data, 0 ≤ b ∧ b < 256) (hi : i < 8 * s.Data.length) (hl : i ≤ 100000) : ∃ x : Int, m_bitio_bit s (i : Int) = some x ∧ m_ref02_bit s.Data (i : Int) = some x := by
  have e1 : Int.tdiv (i : Int) 8 = ((i / 8 : Nat) : Int) := by rw [Int.tdiv_eq_ediv_of_nonneg (by omega)]; omega
  have e2 : Int.tmod (i : Int) 8 = ((i % 8 : Nat) : Int) := by rw [Int.tmod_eq_emod_of_nonneg (by omega)]; omega
  have e3 : (7 : Int) - ((i % 8 : Nat) : Int) = ((7 - i % 8 : Nat) : Int) := by omega
  obtain ⟨e, he, hm, _⟩ := (elO_ok (l := s.Data) (i := ((i / 8 : Nat) : Int)) (by omega) (by omega)).get
  have hbe := hb e hm
  have e4 : min ((7 - i % 8 : Nat) : Int).toNat 8 = 7 - i % 8 := by omega
  have hlt : e.toNat / 2 ^ (7 - i % 8) < 256 := Nat.lt_of_le_of_lt (Nat.div_le_self _ _) (by omega)
  have e5 : Int.fdiv e (2 ^ (7 - i % 8)) = ((e.toNat / 2 ^ (7 - i % 8) : Nat) : Int) := by
    rw [← fdivN, show ((e.toNat : Nat) : Int) = e by omega]
  refine ⟨((e.toNat / 2 ^ (7 - i % 8) % 2 : Nat) : Int), ?_, ?_⟩
  · unfold m_bitio_bit
    rw [e1, e2, e3, w64_id (by omega) (by omega), he, bnd_s, w64_id (by omega) (by omega), chk_t (by simp), e4, e5, and1_8 hlt, wU64 (by omega)]
  · unfold m_ref02_bit
    rw [e1, e2, e3, w64_id (by omega) (by omega), he, bnd_s, w64_id (by omega) (by omega), wU64 (by omega), chk_t (by simp), e4, e5, wU64 (by omega), and1_64 (by omega)]
theorem and16 (x : Int) : ∃ n : Nat, bitsI .and .u64 x 65535 = n ∧ n < 65536 := by
  refine ⟨(BitVec.ofInt 64 x &&& BitVec.ofInt 64 65535).toNat, ?_, ?_⟩
  · show IntKind.wrap .u64 _ = _
    exact wU64 (BitVec.isLt _)
  · rw [BitVec.toNat_and]
    exact Nat.lt_of_le_of_lt Nat.and_le_right (by decide)
theorem xor16 {n : Nat} (h : n < 65536) : ∃ m : Nat, bitsI .xor .u64 n 4129 = m ∧ m < 65536 := by
  refine ⟨n ^^^ 4129, ?_, Nat.xor_lt_two_pow (n := 16) h (by decide)⟩
  show IntKind.wrap .u64 ((BitVec.ofNat 64 n ^^^ BitVec.ofNat 64 4129).toNat : Int) = _
  rw [BitVec.toNat_xor, BitVec.toNat_ofNat, BitVec.toNat_ofNat, Nat.mod_eq_of_lt (show n < 2 ^ 64 by omega), Nat.mod_eq_of_lt (show 4129 < 2 ^ 64 by decide)]
  exact wU64 (Nat.lt_trans (Nat.xor_lt_two_pow (n := 16) h (by decide)) (by decide))
theorem check_both {s : GStream} {B V : Nat} (h : Str s B V) (hB : B ≤ 8192) : ∃ c : Nat, c < 65536 ∧ m_bitio_Check s = some ((c : Int), 0) ∧ m_ref02_Check s = some ((c : Int), 0) := by
  have hle := h.r.le; have ht := h.t; have hb := h.b
  have key : m_bitio_Check s = m_ref02_Check s := by
    unfold m_bitio_Check m_ref02_Check
    rw [bitio_valid h hB, ref02_valid h hB]
    simp only [bnd_s, Bool.not_true, cond_false]
    congr 1
    refine forN_congr _ _ _ ?_ fun s => rfl
    intro j r Z Z' h1 h2 hz
    obtain ⟨x, hx1, hx2⟩ := bit_eq (s := s) (i := j.toNat) h.r.by_ (by omega) (by omega)
    rw [show ((j.toNat : Nat) : Int) = j by omega] at hx1 hx2
    simp only [jn, hx1, hx2, bnd_s, hz]
    by_cases hc : Int.fdiv r (2 ^ min (15 : Int).toNat 64) = x <;> simp [hc]
  rw [key]
  have : Ok (m_ref02_Check s) (fun p => ∃ c : Nat, c < 65536 ∧ p = ((c : Int), 0)) := by
    unfold m_ref02_Check
    rw [ref02_valid h hB, bnd_s]
    simp only [Bool.not_true, cond_false]
    refine Ok.chk (by simp; omega) ?_
    refine Ok.forN (fun _ (r : Int) => ∃ c : Nat, c < 65536 ∧ r = c) 0 s.Bits ?_ ?_ _ _ _ (by simp) (by omega) (by omega) ⟨65535, by decide, rfl⟩
    · rintro i r Z h1 h2 ⟨c, hc, rfl⟩ hZ
      refine Ok.jn (fun r => ∃ c : Nat, c < 65536 ∧ r = c) (fun r hr => hZ _ hr) fun J hJ => ?_
      obtain ⟨x, hx1, hx2⟩ := bit_eq (s := s) (i := i.toNat) h.r.by_ (by omega) (by omega)
      rw [show ((i.toNat : Nat) : Int) = i by omega] at hx2
      rw [hx2, bnd_s]
      obtain ⟨n, hn, hn2⟩ := and16 (IntKind.wrap .u64 ((c : Int) * 2 ^ min (1 : Int).toNat 64))
      rw [hn]
      refine Ok.cs (fun _ => ?_) fun _ => hJ _ ⟨n, hn2, rfl⟩
      obtain ⟨m, hm, hm2⟩ := xor16 hn2
      rw [hm]
      exact hJ _ ⟨m, hm2, rfl⟩
    · rintro i r h1 h2 ⟨c, hc, rfl⟩
      exact Ok.s ⟨c, hc, rfl⟩
  obtain ⟨_, hp, c, hc, rfl⟩ := this
  exact ⟨c, hc, hp, hp⟩
/-- one field more, by both -/
theorem put_both {s : GStream} {B V v n : Nat} (h : Str s B V) (hn : n ≤ 64) (hv : v < 2 ^ n) (hB : B + n ≤ 8192) : ∃ u, m_advert_writer_put (GAdvert_writer.mk s) v n = some (GAdvert_writer.mk u) ∧ m_ref07_put s v n = some u ∧ Str u (B + n) (V * 2 ^ n + v) := by
  have hv64 : v < 2 ^ 64 := Nat.lt_of_lt_of_le hv (Nat.pow_le_pow_right (by decide) hn)
  obtain ⟨p, hp, hs, _⟩ := bitio_append h hn hv hB
  obtain ⟨q, hq, ht, _⟩ := ref02_append h hn hv hB
  have e := hs.unique ht
  refine ⟨p.1, ?_, ?_, hs⟩
  · unfold m_advert_writer_put
    rw [wU64 (by omega), hp]; rfl
  · unfold m_ref07_put
    rw [wU64 (by omega), hq, e]; rfl
/-- two loops side by side, through the same states -/
theorem lock_loop {α σ β γ : Type} {B1 : Int → α → (σ → Option β) → σ → Option β} {B2 : Int → α → (σ → Option γ) → σ → Option γ} {L : List α} (I : Nat → σ → Prop)
    (hc : ∀ (j : Nat) x s, L[j]? = some x → I j s → ∃ s', I (j + 1) s' ∧ (∀ Z, B1 (j : Int) x Z s = Z s') ∧ ∀ Z, B2 (j : Int) x Z s = Z s') (s : σ) (h : I 0 s) :
    ∃ s', I L.length s' ∧ (∀ K, forI L 0 B1 K s = K s') ∧ ∀ K, forI L 0 B2 K s = K s' := by
  have key : ∀ (l p : List α) (s : σ), L = p ++ l → I p.length s → ∃ s', I L.length s' ∧ (∀ K, forI l p.length B1 K s = K s') ∧ ∀ K, forI l p.length B2 K s = K s' := by
    intro l
    induction l with
    | nil => intro p s hj h; rw [List.append_nil] at hj; subst hj; exact ⟨s, h, fun _ => rfl, fun _ => rfl⟩
    | cons x r ih =>
      intro p s hj h
      obtain ⟨s1, h1, e1, e2⟩ := hc p.length x s (by rw [hj]; simp) h
      obtain ⟨s2, h2, e3, e4⟩ := ih (p ++ [x]) s1 (by simp [hj]) (by simpa using h1)
      simp only [List.length_append, List.length_cons, List.length_nil] at e3 e4
      exact ⟨s2, h2, fun K => by simp only [forI]; rw [e1]; exact e3 K, fun K => by simp only [forI]; rw [e2]; exact e4 K⟩
  exact key L [] s rfl h
/-- fields, one behind the other -/
def valF : Nat → List (Nat × Nat) → Nat
  | a, [] => a
  | a, (v, w) :: r => valF (a * 2 ^ w + v) r
def widF : List (Nat × Nat) → Nat
  | [] => 0
  | (_, w) :: r => w + widF r
theorem valF_app : ∀ (a : Nat) (F G : List (Nat × Nat)), valF a (F ++ G) = valF (valF a F) G
  | _, [], _ => rfl
  | a, (v, w) :: r, G => valF_app _ r G
theorem widF_app : ∀ (F G : List (Nat × Nat)), widF (F ++ G) = widF F + widF G
  | [], G => by simp [widF]
  | (v, w) :: r, G => by simp only [List.cons_append, widF, widF_app r G]; omega
def codeN (l : Int) : Nat := if l = 8 then 0 else if l = 16 then 1 else if l = 32 then 2 else 3
theorem ref01_code {l : Int} (h : lenB l = true) : m_ref01_Code l = some (codeN l : Int) := by
  simp only [lenB, Bool.or_eq_true, decide_eq_true_eq] at h
  rcases h with rfl | rfl | rfl | rfl <;> decide +kernel
theorem iter_s {σ β : Type} (F : (σ → Option β) → σ → Option β) (n : Nat) (s : σ) : iter F (n + 1) s = F (iter F n) s := rfl
theorem code_loop {β : Type} {l : Int} (h : lenB l = true) (R : Int → Option β) : whl (fun (Z : Int → Option β) (c : Int) => chk (decide (0 ≤ c)) <| bif decide (IntKind.wrap .i64 ((8 : Int) * 2 ^ min c.toNat 64) < l) then Z (w64 (c + 1)) else R c) 0 = R (codeN l : Int) := by
  simp only [lenB, Bool.or_eq_true, decide_eq_true_eq] at h
  show iter _ (1099511627772 + 4) 0 = _
  have e1 : w64 (0 + 1) = 1 := by decide
  have e2 : w64 (1 + 1) = 2 := by decide
  have e3 : w64 (2 + 1) = 3 := by decide
  have p0 : IntKind.wrap .i64 ((8 : Int) * 2 ^ min (0 : Int).toNat 64) = 8 := by decide
  have p1 : IntKind.wrap .i64 ((8 : Int) * 2 ^ min (1 : Int).toNat 64) = 16 := by decide
  have p2 : IntKind.wrap .i64 ((8 : Int) * 2 ^ min (2 : Int).toNat 64) = 32 := by decide
  have p3 : IntKind.wrap .i64 ((8 : Int) * 2 ^ min (3 : Int).toNat 64) = 64 := by decide
  rcases h with rfl | rfl | rfl | rfl
  · rw [iter_s, chk_t (by decide), p0]; rfl
  · rw [iter_s, chk_t (by decide), p0, e1]
    simp only [show decide ((8 : Int) < 16) = true from rfl, cond_true]
    rw [iter_s, chk_t (by decide), p1]; rfl
  · rw [iter_s, chk_t (by decide), p0, e1]
    simp only [show decide ((8 : Int) < 32) = true from rfl, cond_true]
    rw [iter_s, chk_t (by decide), p1, e2]
    simp only [show decide ((16 : Int) < 32) = true from rfl, cond_true]
    rw [iter_s, chk_t (by decide), p2]; rfl
  · rw [iter_s, chk_t (by decide), p0, e1]
    simp only [show decide ((8 : Int) < 64) = true from rfl, cond_true]
    rw [iter_s, chk_t (by decide), p1, e2]
    simp only [show decide ((16 : Int) < 64) = true from rfl, cond_true]
    rw [iter_s, chk_t (by decide), p2, e3]
    simp only [show decide ((32 : Int) < 64) = true from rfl, cond_true]
    rw [iter_s, chk_t (by decide), p3]; rfl
theorem putI {s : GStream} {B V n : Nat} {v : Int} (h : Str s B V) (h0 : 0 ≤ v) (hn : n ≤ 64) (hv : v < 2 ^ n) (hB : B + n ≤ 8192) : ∃ u, m_advert_writer_put (GAdvert_writer.mk s) v n = some (GAdvert_writer.mk u) ∧ m_ref07_put s v n = some u ∧ Str u (B + n) (V * 2 ^ n + v.toNat) := by
  have hv' : v.toNat < 2 ^ n := by
    have : ((2 : Int) ^ n) = ((2 ^ n : Nat) : Int) := by push_cast; rfl
    omega
  obtain ⟨u, h1, h2, h3⟩ := put_both h hn hv' hB
  rw [show ((v.toNat : Nat) : Int) = v by omega] at h1 h2
  exact ⟨u, h1, h2, h3⟩
theorem align_all {s : GStream} {B V : Nat} (h : Str s B V) (hB : B + 8 ≤ 8192) : Ok (m_ref02_Align s) (fun p => p.1.Data = s.Data) := by
  unfold m_ref02_Align
  rw [ref02_valid h (by omega), bnd_s]
  simp only [Bool.not_true, cond_false]
  have hle := h.r.le; have ht := h.t
  refine Ok.whl (fun sg : List Int × Int => ∃ k : Nat, B + k ≤ 8 * s.Data.length ∧ sg.1 = s.Data ∧ Str (GStream.mk sg.1 sg.2) (B + k) (V * 2 ^ k)) (fun sg => ((8 * s.Data.length : Nat) - sg.2).toNat) ⟨0, by omega, rfl, by simpa using h⟩ (by simp only; rw [h.b]; omega) ?_
  rintro ⟨D, N⟩ Z ⟨k, hk, hD, hs⟩ hZ
  simp only at hD hs ⊢
  have hN : N = ((B + k : Nat) : Int) := hs.b
  subst hD
  have e2 : Int.tmod N 8 = (((B + k) % 8 : Nat) : Int) := by rw [hN, Int.tmod_eq_emod_of_nonneg (by omega)]; omega
  rw [e2]
  refine Ok.cs (fun hc => ?_) fun _ => Ok.s rfl
  have hm : (B + k) % 8 ≠ 0 := by simp at hc; omega
  obtain ⟨u, hu, hus⟩ := (ref02_put (b := 0) hs (by omega) (by omega)).get
  have huD : u.Data = s.Data := by
    have hx : SR s.Data (B + k + 1) (V * 2 ^ k * 2) := by
      refine ⟨h.r.by_, by omega, by omega, ?_⟩
      have e : 2 ^ (8 * s.Data.length - B) = 2 ^ k * 2 * 2 ^ (8 * s.Data.length - (B + k + 1)) := by
        rw [← Nat.pow_succ, ← Nat.pow_add]; congr 1; omega
      rw [h.r.num, e]; simp only [Nat.mul_assoc]
    exact hus.r.unique hx hus.t (by omega)
  refine Ok.bnd (P := fun x => x = u) ⟨u, hu, rfl⟩ ?_
  rintro _ rfl
  refine hZ _ ⟨k + 1, by omega, huD, ?_⟩ (by simp only; rw [hus.b, hN]; omega)
  rw [← Nat.add_assoc, Nat.pow_succ, ← Nat.mul_assoc]; exact hus
theorem jn_cap {β : Type} (c : Bool) (K : Int → Option β) : jn K (fun J => bif c then J 1 else J 0) = K (bif c then 1 else 0) := by cases c <;> rfl
def fieldsR (x : GReach) : List (Nat × Nat) := [(x.Neighbour.toNat, 7), (x.Cost.toNat, 10), (x.Capacity.toNat, 10)]
def fieldsC (x : GClaim) : List (Nat × Nat) := [(x.Subdomain.toNat, 3), (x.ID.toNat, 9), (codeN x.Length, 2)]
def headF (a : GAdvert) : List (Nat × Nat) := [(a.Router.toNat, 7), (a.Seq.toNat, 20), ((bif a.Capable then 1 else 0), 1), (a.Links.length, 5)]
def bodyF (a : GAdvert) : List (Nat × Nat) := (headF a ++ a.Links.flatMap fieldsR) ++ (a.Claims.length, 4) :: a.Claims.flatMap fieldsC
theorem take_next {α : Type} {l : List α} {j : Nat} {x : α} (h : l[j]? = some x) : l.take (j + 1) = l.take j ++ [x] := by
  obtain ⟨h1, rfl⟩ := List.getElem?_eq_some_iff.1 h
  rw [List.take_succ_eq_append_getElem h1]
theorem wid_R : ∀ l : List GReach, widF (l.flatMap fieldsR) = 27 * l.length
  | [] => rfl
  | x :: l => by rw [List.flatMap_cons, widF_app, wid_R l, List.length_cons]; simp only [fieldsR, widF]; omega
theorem wid_C : ∀ l : List GClaim, widF (l.flatMap fieldsC) = 14 * l.length
  | [] => rfl
  | x :: l => by rw [List.flatMap_cons, widF_app, wid_C l, List.length_cons]; simp only [fieldsC, widF]; omega
/-- what an advert is written as -/
theorem enc_full {a : GAdvert} (h : validB a = true) : ∃ l c, m_advert_Encode a = some (l, 0) ∧ m_ref07_Encode a = some (l, 0) ∧ c < 65536 ∧ SR l (widF (bodyF a ++ [(c, 16)])) (valF 0 (bodyF a ++ [(c, 16)])) := by
  have hv := va_of h
  have hb := h
  simp only [validB, inB, Bool.and_eq_true, decide_eq_true_eq, List.all_eq_true] at hb
  obtain ⟨⟨⟨⟨⟨r1, r2⟩, ⟨q1, q2⟩⟩, l1⟩, ⟨gl, _⟩⟩, ⟨c1, gc, _⟩⟩ := hb
  unfold m_advert_Encode m_ref07_Encode
  rw [ad_valid, ref07_valid, h]
  obtain ⟨s1, a1, b1, t1⟩ := putI (v := a.Router) (n := 7) Str.nil (by omega) (by omega) (by omega) (by omega)
  obtain ⟨s2, a2, b2, t2⟩ := putI (v := a.Seq) (n := 20) t1 (by omega) (by omega) (by omega) (by omega)
  rw [show ((7 : Nat) : Int) = 7 from rfl] at a1 b1
  rw [show ((20 : Nat) : Int) = 20 from rfl] at a2 b2
  simp only [a1, b1, a2, b2, bnd_s, Bool.not_true, cond_false, jn_cap]
  have hcp : (0 ≤ (bif a.Capable then (1 : Int) else 0) ∧ (bif a.Capable then (1 : Int) else 0) < 2) ∧ (bif a.Capable then (1 : Int) else 0).toNat = (bif a.Capable then 1 else 0) := by cases a.Capable <;> decide
  generalize (bif a.Capable then (1 : Int) else 0) = cp at hcp ⊢
  obtain ⟨hcp, hcpn⟩ := hcp
  obtain ⟨s3, a3, b3, t3⟩ := putI (v := cp) (n := 1) t2 (by omega) (by omega) (by omega) (by omega)
  obtain ⟨s4, a4, b4, t4⟩ := putI (v := (a.Links.length : Int)) (n := 5) t3 (by omega) (by omega) (by omega) (by omega)
  rw [show ((1 : Nat) : Int) = 1 from rfl] at a3 b3
  rw [show ((5 : Nat) : Int) = 5 from rfl] at a4 b4
  simp only [a3, b3, a4, b4, bnd_s]
  obtain ⟨⟨D1, N1⟩, t5, e1, e2⟩ := lock_loop (L := a.Links)
    (B1 := fun (j1 : Int) (e1 : GReach) (Z1 : ((List Int) × Int) → Option (List Int × Int)) (sg : (List Int) × Int) => bnd (m_advert_writer_put (GAdvert_writer.mk (GStream.mk sg.1 sg.2)) e1.Neighbour (7:Int)) fun (vx_6 : GAdvert_writer) => bnd (m_advert_writer_put vx_6 e1.Cost (10:Int)) fun (vx_7 : GAdvert_writer) => bnd (m_advert_writer_put vx_7 e1.Capacity (10:Int)) fun (vx_8 : GAdvert_writer) => Z1 (vx_8.s_.Data, vx_8.s_.Bits))
    (B2 := fun (j1 : Int) (e1 : GReach) (Z1 : ((List Int) × Int) → Option (List Int × Int)) (sg : (List Int) × Int) => bnd (m_ref07_put (GStream.mk sg.1 sg.2) e1.Neighbour (7:Int)) fun (vx_6 : GStream) => bnd (m_ref07_put vx_6 e1.Cost (10:Int)) fun (vx_7 : GStream) => bnd (m_ref07_put vx_7 e1.Capacity (10:Int)) fun (vx_8 : GStream) => Z1 (vx_8.Data, vx_8.Bits))
    (fun j sg => Str (GStream.mk sg.1 sg.2) (33 + 27 * j) (valF 0 (headF a ++ (a.Links.take j).flatMap fieldsR))) (by
      rintro j x ⟨D, N⟩ hx t
      have hj : j < a.Links.length := (List.getElem?_eq_some_iff.1 hx).1
      have g := gl x (List.mem_of_getElem? hx)
      simp only [goodR, inB, Bool.and_eq_true, decide_eq_true_eq] at g
      obtain ⟨u1, c1, d1, f1⟩ := putI (v := x.Neighbour) (n := 7) t (by omega) (by omega) (by omega) (by omega)
      obtain ⟨u2, c2, d2, f2⟩ := putI (v := x.Cost) (n := 10) f1 (by omega) (by omega) (by omega) (by omega)
      obtain ⟨u3, c3, d3, f3⟩ := putI (v := x.Capacity) (n := 10) f2 (by omega) (by omega) (by omega) (by omega)
      rw [show ((7 : Nat) : Int) = 7 from rfl] at c1 d1
      rw [show ((10 : Nat) : Int) = 10 from rfl] at c2 d2 c3 d3
      refine ⟨(u3.Data, u3.Bits), ?_, fun Z => ?_, fun Z => ?_⟩
      · rw [show 33 + 27 * (j + 1) = 33 + 27 * j + 7 + 10 + 10 by omega, take_next hx, List.flatMap_append, ← List.append_assoc, valF_app]
        exact f3
      · simp only [c1, c2, c3, bnd_s]
      · simp only [d1, d2, d3, bnd_s]) (s4.Data, s4.Bits) (by
      have : valF 0 (headF a ++ (a.Links.take 0).flatMap fieldsR) = (((0 * 2 ^ 7 + a.Router.toNat) * 2 ^ 20 + a.Seq.toNat) * 2 ^ 1 + cp.toNat) * 2 ^ 5 + a.Links.length := by rw [hcpn]; rfl
      rw [this]; exact t4)
  rw [e1, e2]
  simp only [List.take_length] at t5 ⊢
  obtain ⟨s6, a6, b6, t6⟩ := putI (v := (a.Claims.length : Int)) (n := 4) t5 (by omega) (by omega) (by omega) (by omega)
  rw [show ((4 : Nat) : Int) = 4 from rfl] at a6 b6
  simp only [a6, b6, bnd_s]
  obtain ⟨⟨D2, N2⟩, t7, e3, e4⟩ := lock_loop (L := a.Claims)
    (B1 := fun (j2 : Int) (e2 : GClaim) (Z2 : ((List Int) × Int) → Option (List Int × Int)) (sg : (List Int) × Int) => whl (fun (Z3 : Int → Option (List Int × Int)) (code_1 : Int) => chk (decide (0 ≤ code_1)) <| bif decide (IntKind.wrap .i64 ((8:Int) * 2 ^ min code_1.toNat 64) < e2.Length) then Z3 (w64 (code_1 + (1:Int))) else bnd (m_advert_writer_put (GAdvert_writer.mk (GStream.mk sg.1 sg.2)) e2.Subdomain (3:Int)) fun (vx_10 : GAdvert_writer) => bnd (m_advert_writer_put vx_10 e2.ID (9:Int)) fun (vx_11 : GAdvert_writer) => bnd (m_advert_writer_put vx_11 code_1 (2:Int)) fun (vx_12 : GAdvert_writer) => Z2 (vx_12.s_.Data, vx_12.s_.Bits)) (0:Int))
    (B2 := fun (j2 : Int) (e2 : GClaim) (Z2 : ((List Int) × Int) → Option (List Int × Int)) (sg : (List Int) × Int) => bnd (m_ref07_put (GStream.mk sg.1 sg.2) e2.Subdomain (3:Int)) fun (vx_10 : GStream) => bnd (m_ref07_put vx_10 e2.ID (9:Int)) fun (vx_11 : GStream) => bnd (m_ref01_Code e2.Length) fun (vx_12 : Int) => bnd (m_ref07_put vx_11 vx_12 (2:Int)) fun (vx_13 : GStream) => Z2 (vx_13.Data, vx_13.Bits))
    (fun j sg => Str (GStream.mk sg.1 sg.2) (37 + 27 * a.Links.length + 14 * j) (valF 0 ((headF a ++ a.Links.flatMap fieldsR) ++ (a.Claims.length, 4) :: (a.Claims.take j).flatMap fieldsC))) (by
      rintro j x ⟨D, N⟩ hx t
      have hj : j < a.Claims.length := (List.getElem?_eq_some_iff.1 hx).1
      have g := gc x (List.mem_of_getElem? hx)
      simp only [goodC, inB, Bool.and_eq_true, decide_eq_true_eq] at g
      have hcd : codeN x.Length < 4 := by unfold codeN; split; omega; split; omega; split <;> omega
      obtain ⟨u1, c1, d1, f1⟩ := putI (v := x.Subdomain) (n := 3) t (by omega) (by omega) (by omega) (by omega)
      obtain ⟨u2, c2, d2, f2⟩ := putI (v := x.ID) (n := 9) f1 (by omega) (by omega) (by omega) (by omega)
      obtain ⟨u3, c3, d3, f3⟩ := putI (v := (codeN x.Length : Int)) (n := 2) f2 (by omega) (by omega) (by omega) (by omega)
      rw [show ((3 : Nat) : Int) = 3 from rfl] at c1 d1
      rw [show ((9 : Nat) : Int) = 9 from rfl] at c2 d2
      rw [show ((2 : Nat) : Int) = 2 from rfl] at c3 d3
      refine ⟨(u3.Data, u3.Bits), ?_, fun Z => ?_, fun Z => ?_⟩
      · rw [show 37 + 27 * a.Links.length + 14 * (j + 1) = 37 + 27 * a.Links.length + 14 * j + 3 + 9 + 2 by omega, take_next hx, List.flatMap_append, ← List.cons_append, ← List.append_assoc, valF_app]
        exact f3
      · simp only
        rw [code_loop g.2]
        simp only [c1, c2, c3, bnd_s]
      · simp only [d1, d2, d3, bnd_s, ref01_code g.2]) (s6.Data, s6.Bits) (by
        rw [show 37 + 27 * a.Links.length + 14 * 0 = 33 + 27 * a.Links.length + 4 by omega, valF_app]; exact t6)
  rw [e3, e4]
  simp only [List.take_length] at t7 ⊢
  obtain ⟨c, hc, k1, k2⟩ := check_both t7 (by omega)
  simp only [k1, k2, bnd_s]
  rw [w64_id (by omega) (by omega)]
  obtain ⟨s8, a8, b8, t8⟩ := putI (v := (c : Int)) (n := 16) t7 (by omega) (by omega) (by omega) (by omega)
  rw [show ((16 : Nat) : Int) = 16 from rfl] at a8 b8
  simp only [a8, b8, bnd_s]
  obtain ⟨p, hp, hd⟩ := align_all t8 (by omega)
  rw [hp, bnd_s, hd]
  have hw : widF (bodyF a ++ [(c, 16)]) = 37 + 27 * a.Links.length + 14 * a.Claims.length + 16 := by
    rw [widF_app, bodyF, widF_app, widF_app, wid_R]
    simp only [widF, wid_C, headF]; omega
  refine ⟨_, c, rfl, rfl, hc, ?_⟩
  rw [hw, valF_app]
  exact t8.r
theorem enc_both {a : GAdvert} (h : validB a = true) : ∃ l, m_advert_Encode a = some (l, 0) ∧ m_ref07_Encode a = some (l, 0) := by
  obtain ⟨l, c, h1, h2, _⟩ := enc_full h
  exact ⟨l, h1, h2⟩
end Go.Proofs.YtmcjffllahcclaaGreat
