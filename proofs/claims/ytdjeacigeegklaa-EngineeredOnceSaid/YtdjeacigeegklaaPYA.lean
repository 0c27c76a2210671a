/- Plain: the tape of the later layers, and its small words. No condition. -/
import Derived.Test.YtdjeacigeegklaaPM
import Derived.Test.YtdjeacigeegklaaDA
namespace Go.Proofs.Ytdjeacigeegklaa
set_option linter.all false
open Go
def dB (t : aQ) : Prop := 0 ≤ t.At ∧ t.At ≤ t.L.length ∧ t.L.length ≤ 2000
theorem adq (n : Int) : w64 n ≤ 9223372036854775807 ∧ -9223372036854775808 ≤ w64 n := by
 unfold w64
 rw [IntKind.wrap_i64]; omega
theorem acm (l : List Int) : Ok (fW l) dB := by
 unfold fW
 refine Ok.bnd (aap ⟨by omega, ?_, ?_⟩) fun m hm => Ok.s ⟨by simp, by simp, ?_⟩
 ·split <;> omega
 ·split <;> omega
 ·have := hm.2; simp only; split at this <;> omega
theorem art {t : aQ} (h : dB t) : Ok (gm t) (fun p => dB p.2) := by
 obtain ⟨h0, h1, h2⟩ := h
 unfold gm
 refine Ok.cs (fun _ => Ok.s ⟨h0, h1, h2⟩) fun hc => ?_
 simp at hc
 have e : w64 (t.At + 1) = t.At + 1 := gH (by omega) (by omega)
 rw [e, gH (by omega) (by omega)]
 refine Ok.bnd (mq (by omega) (by omega)) fun a _ => Ok.s ⟨?_, ?_, h2⟩ <;> show _ <;> simp <;> omega
theorem aru {x n : Int} (hn : n ≤ 9223372036854775807) : Ok (iV x n) (fun r => 0 ≤ r ∧ (1 ≤ n → r < n) ∧ (n < 1 → r = 0)) := by
 unfold iV
 refine Ok.cs (fun h => Ok.s ?_) fun h => ?_
 ·simp at h; omega
 have h : 1 ≤ n := by simpa using h
 have h1 : Int.tmod x n < n := Int.tmod_lt_of_pos _ (by omega)
 have h2 : -n < Int.tmod x n := Int.lt_tmod_of_pos _ (by omega)
 refine Ok.chk (by simp; omega) ?_
 refine Ok.jn (fun r => 0 ≤ r ∧ r < n) (fun s hs => Ok.s ⟨hs.1, fun _ => hs.2, by omega⟩) fun J hJ => ?_
 refine Ok.cs (fun hc => hJ _ ?_) fun hc => hJ _ ?_
 ·simp at hc; rw [gH (by omega) (by omega)]; omega
 ·simp at hc; omega
theorem f_n {t : aQ} {n : Int} (h : dB t) (hn : n ≤ 9223372036854775807) : Ok (bn t n) (fun p => (0 ≤ p.1 ∧ (1 ≤ n → p.1 < n) ∧ (n < 1 → p.1 = 0)) ∧ dB p.2) := by
 unfold bn
 exact Ok.bnd (art h) fun p hp => Ok.bnd (aru hn) fun r hr => Ok.s ⟨hr, hp⟩
theorem yN {t : aQ} {low high : Int} (h : dB t) : Ok (dZ t low high) (fun p => (-2305843009213693952 ≤ low → low ≤ high → high < 2305843009213693952 → low ≤ p.1 ∧ p.1 ≤ high) ∧ dB p.2) := by
 unfold dZ
 refine Ok.bnd (f_n h (adq _).1) fun p hp => Ok.s ⟨fun h1 h2 h3 => ?_, hp.2⟩
 obtain ⟨⟨q1, q2, _⟩, _⟩ := hp
 rw [gH (n := high - low) (by omega) (by omega), gH (n := high - low + 1) (by omega) (by omega)] at q2
 show low ≤ w64 (low + p.1) ∧ w64 (low + p.1) ≤ high
 rw [gH (by omega) (by omega)]; omega
theorem rB {t : aQ} {l : List Int} (h : dB t) (h0 : 1 ≤ l.length) (h1 : l.length ≤ 1000000) : Ok (cN t l) (fun p => p.1 ∈ l ∧ dB p.2) := by
 unfold cN
 refine Ok.bnd (f_n h (by omega)) fun p hp => ?_
 exact Ok.bnd (mq hp.1.1 (hp.1.2.1 (by omega))) fun a ha => Ok.s ⟨ha.1, hp.2⟩
theorem f_in (l : List Int) (n : Int) : jm l n = some (decide (n ∈ l)) := by
 unfold jm
 rw [iQ (fun x => decide (x = n)) (some true) (fun j x Z s => rfl) l 0 (), akB]
 by_cases h : n ∈ l <;> simp [h]
end Go.Proofs.Ytdjeacigeegklaa
