/- Plain: abl of the tape; what Forward comes to. No condition but bL aY stand in each. -/
import Derived.Test.YtdjeacigeegklaaPYM
import Derived.Test.YtdjeacigeegklaaDL
namespace Go.Proofs.Ytdjeacigeegklaa
set_option linter.all false
open Go
theorem pe : eU = some true := by kernel_rfl
/-- a aou for an aaG -/
structure Pk (e : aM) (p : aS) : Prop where
 v : vk p = true
 m : p.Mode = 2
 l : p.Length = e.Length
theorem j9 {p : aS} : vk p = true ↔ (1 ≤ p.Mode ∧ p.Mode ≤ 3) ∧ (0 ≤ p.bQ ∧ p.bQ ≤ 7) ∧ (0 ≤ p.Set ∧ p.Set ≤ 31) ∧ vU p.Bits p.Length = true ∧ (0 ≤ p.TTL ∧ p.TTL ≤ 63) ∧ (0 ≤ p.cv ∧ p.cv ≤ 1023) ∧ (0 ≤ p.cw ∧ p.cw ≤ 256) ∧ (0 ≤ p.dx ∧ p.dx ≤ 7) ∧ (p.cz.size : Int) ≤ 64 := by
 unfold vk inN
 simp only [Bool.and_eq_true, decide_eq_true_eq, and_assoc]
theorem Pk.ttl {e : aM} {p : aS} (h : Pk e p) (n : Int) (hn : 0 ≤ n ∧ n ≤ 63) : Pk e (aS.mk p.Mode p.bQ p.Set p.Length n p.cv p.cw p.dx p.Bits p.cz) := by
 obtain ⟨h1, h2, h3⟩ := h
 rw [j9] at h1
 refine ⟨j9.2 ?_, h2, h3⟩
 obtain ⟨a1, a2, a3, a4, a5, a6⟩ := h1
 exact ⟨a1, a2, a3, a4, hn, a6⟩
theorem Pk.bits {e : aM} {p : aS} (h : Pk e p) (b : Int) (hb : ∀ i, tbi b i = true → tbi p.Bits i = true) : Pk e (aS.mk p.Mode p.bQ p.Set p.Length p.TTL p.cv p.cw p.dx b p.cz) := by
 obtain ⟨h1, h2, h3⟩ := h
 rw [j9] at h1
 refine ⟨j9.2 ?_, h2, h3⟩
 obtain ⟨a1, a2, a3, a4, a5⟩ := h1
 rw [nV] at a4
 exact ⟨a1, a2, a3, nV.2 ⟨a4.1, fun i hi => a4.2 i (hb i hi)⟩, a5⟩
theorem xy {e : aM} {r : Int} {p : aS} {i : Nat} (h : tbi (dU e r p) i = true) : tbi p.Bits i = true := by
 rw [dU, tbn, Bool.and_eq_true] at h; exact h.1
theorem Pk.go {e : aM} (hE : Ve e) {p : aS} (h : Pk e p) (r : Int) (hr : dU e r p ≠ 0) (ht : 0 < p.TTL) : Pk e (goP e r p) := by
 have h2 := (h.bits (dU e r p) fun i hi => xy hi)
 have h3 := j9.1 h.v
 have := h2.ttl (w64 (p.TTL - 1)) (by rw [gH (by omega) (by omega)]; omega)
 exact this
def yc (e : aM) (p : aS) : Int := if p.Mode = 2 then if p.Length = e.Length then 0 else 8 else 7
theorem zC (e : aM) (p : aS) : gz e p = some (yc e p) := by
 unfold gz yc
 by_cases h1 : p.Mode = 2 <;> by_cases h2 : p.Length = e.Length <;> simp [h1, h2]
theorem Pk.agO {e : aM} {p : aS} (h : Pk e p) : yc e p = 0 := by unfold yc; rw [if_pos h.m, if_pos h.l]
theorem aaW {e : aM} (hE : Ve e) {p : aS} (hp : vk p = true) (r : Int) (hs : yc e p = 0) : gL e r p = some (lJ e r p, 0) := by
 unfold gL
 have := hE.small
 simp only [jn, rD e (by omega), rE.2 hE, bK, rI, hp, zC, hs, decide_true, Bool.not_true, cond_false, yb hE]
theorem yd {t : aQ} {e : aM} (h : dB t) (hE : Ve e) : Ok (jg t e) (fun q => Pk e q.1 ∧ dB q.2) := by
 unfold jg
 refine Ok.bnd (rB h (by simp) (by simp)) fun a ha => Ok.bnd (f_n ha.2 (by omega)) fun b hb => Ok.bnd (f_n hb.2 (by omega)) fun c hc => Ok.bnd (rB hc.2 (by simp) (by simp)) fun n hn => ?_
 refine Ok.vf (L := e.List) (fun p (sg : Int × List Int × Int) => (∀ i : Nat, tbi sg.1 i = true → (i : Int) < e.Length) ∧ dB (aQ.mk sg.2.1 sg.2.2)) (fun p x rest s Z hL hI hZ => ?_) _ ⟨fun i hi => (by rw [jI] at hi; cases hi), hn.2⟩ (fun s hs => ?_)
 ·obtain ⟨m, L, A⟩ := s
  obtain ⟨i1, i2⟩ := hI
  have hx : x ∈ e.List := by rw [hL]; simp
  have hxb := hE.bit hx
  have hxr := hE.rng x hx
  unfold jn
  have hn2 := hn.1
  simp only [List.mem_cons, List.not_mem_nil, or_false] at hn2
  refine Ok.bnd (f_n i2 (by omega)) fun u hu => Ok.cs (fun _ => ?_) fun _ => hZ _ ⟨i1, hu.2⟩
  have ew : IntKind.wrap .u64 x.Bit = x.Bit := wrap_u64 hxb.1 (by omega)
  rw [ew]
  refine Ok.chk (by simp; omega) (hZ _ ⟨fun i hi => ?_, hu.2⟩)
  rw [vh hxb.1 hxb.2, tbo, nU x.Bit.toNat i (by omega), Bool.or_eq_true, decide_eq_true_eq] at hi
  rcases hi with hi | hi
  ·exact i1 i hi
  ·omega
 ·obtain ⟨m, L, A⟩ := s
  have ha2 := ha.1
  simp only [List.mem_cons, List.not_mem_nil, or_false] at ha2
  have hb2 := hb.1.2.1 (by omega); have hb3 := hb.1.1
  have hc2 := hc.1.2.1 (by omega); have hc3 := hc.1.1
  refine Ok.s ⟨⟨j9.2 ⟨by simp only; omega, by simp only; omega, by simp only; omega, nV.2 ⟨?_, hs.1⟩, by simp only; omega, by simp only; omega, by simp only; omega, by simp only; omega, ?_⟩, rfl, rfl⟩, hs.2⟩
  ·have := hE.len; simpa [jD] using this
  ·show ((4 : Nat) : Int) ≤ 64; decide
end Go.Proofs.Ytdjeacigeegklaa
