/- Plain: what the tape's readers give. No condition. -/
import Derived.Test.YtjckghpceekieaaP0
import Derived.Test.YtjckghpceekieaaD1
import Derived.Test.YtjckghpceekieaaD3
namespace Go.Proofs.Ytjckghpceekieaa
set_option linter.all false
open Go

def TapeOk (t : GTape) : Prop := 0 ≤ t.At ∧ t.At ≤ t.L.length ∧ t.L.length ≤ 600
theorem w64_hi (n : Int) : w64 n ≤ 9223372036854775807 ∧ -9223372036854775808 ≤ w64 n := by
  unfold w64
  rw [IntKind.wrap_i64]; omega
theorem cut_ok {x n : Int} (hn : n ≤ 9223372036854775807) : Ok (m_mk_Cut x n) (fun r => 0 ≤ r ∧ (1 ≤ n → r < n) ∧ (n < 1 → r = 0)) := by
  unfold m_mk_Cut
  refine Ok.cs (fun h => Ok.s ?_) fun h => ?_
  · simp at h; omega
  have h : 1 ≤ n := by simpa using h
  have h1 : Int.tmod x n < n := Int.tmod_lt_of_pos _ (by omega)
  have h2 : -n < Int.tmod x n := Int.lt_tmod_of_pos _ (by omega)
  refine Ok.chk (by simp; omega) ?_
  refine Ok.jn (fun r => 0 ≤ r ∧ r < n) (fun s hs => Ok.s ⟨hs.1, fun _ => hs.2, by omega⟩) fun J hJ => ?_
  refine Ok.cs (fun hc => hJ _ ?_) fun hc => hJ _ ?_
  · simp at hc; rw [w64_id (by omega) (by omega)]; omega
  · simp at hc; omega
theorem raw_ok {t : GTape} (h : TapeOk t) : Ok (m_mk_Tape_Raw t) (fun p => TapeOk p.2) := by
  obtain ⟨h0, h1, h2⟩ := h
  unfold m_mk_Tape_Raw
  refine Ok.cs (fun _ => Ok.s ⟨h0, h1, h2⟩) fun hc => ?_
  simp at hc
  have e : w64 (t.At + 1) = t.At + 1 := w64_id (by omega) (by omega)
  rw [e, w64_id (by omega) (by omega)]
  refine Ok.bnd (elO_ok (by omega) (by omega)) fun a _ => Ok.s ⟨?_, ?_, h2⟩ <;> show _ <;> simp <;> omega
theorem next_ok {t : GTape} {n : Int} (h : TapeOk t) (hn : n ≤ 9223372036854775807) : Ok (m_mk_Tape_Next t n) (fun p => (0 ≤ p.1 ∧ (1 ≤ n → p.1 < n) ∧ (n < 1 → p.1 = 0)) ∧ TapeOk p.2) := by
  unfold m_mk_Tape_Next
  exact Ok.bnd (raw_ok h) fun p hp => Ok.bnd (cut_ok hn) fun r hr => Ok.s ⟨hr, hp⟩
theorem range_ok {t : GTape} {low high : Int} (h : TapeOk t) : Ok (m_mk_Tape_Range t low high) (fun p => (-2305843009213693952 ≤ low → low ≤ high → high < 2305843009213693952 → low ≤ p.1 ∧ p.1 ≤ high) ∧ TapeOk p.2) := by
  unfold m_mk_Tape_Range
  refine Ok.bnd (next_ok h (w64_hi _).1) fun p hp => Ok.s ⟨fun h1 h2 h3 => ?_, hp.2⟩
  obtain ⟨⟨q1, q2, _⟩, _⟩ := hp
  rw [w64_id (n := high - low) (by omega) (by omega), w64_id (n := high - low + 1) (by omega) (by omega)] at q2
  show low ≤ w64 (low + p.1) ∧ w64 (low + p.1) ≤ high
  rw [w64_id (by omega) (by omega)]; omega
theorem pick_ok {t : GTape} {l : List Int} (h : TapeOk t) (h0 : 1 ≤ l.length) (h1 : l.length ≤ 1000000) : Ok (m_mk_Tape_Pick t l) (fun p => p.1 ∈ l ∧ TapeOk p.2) := by
  unfold m_mk_Tape_Pick
  refine Ok.bnd (next_ok h (by omega)) fun p hp => ?_
  exact Ok.bnd (elO_ok hp.1.1 (hp.1.2.1 (by omega))) fun a ha => Ok.s ⟨ha.1, hp.2⟩
theorem one_ok {t : GTape} {n : Int} (h : TapeOk t) (hn : n ≤ 9223372036854775807) : Ok (m_mk_Tape_One t n) (fun p => TapeOk p.2) := by
  unfold m_mk_Tape_One
  exact Ok.bnd (next_ok h hn) fun p hp => Ok.s hp.2
theorem wild_ok {t : GTape} (h : TapeOk t) : Ok (m_mk_Tape_Wild t) (fun p => TapeOk p.2) := by
  unfold m_mk_Tape_Wild
  exact Ok.bnd (pick_ok h (by decide) (by decide)) fun p hp => Ok.s hp.2
theorem new_ok (l : List Int) : Ok (m_mk_New l) TapeOk := by
  unfold m_mk_New
  refine Ok.jn (fun m : List Int => m.length ≤ 600) (fun s hs => Ok.s ⟨by simp, by simp, hs⟩) fun J hJ => ?_
  refine Ok.cs (fun hc => ?_) fun hc => hJ _ ?_
  · simp at hc
    exact Ok.bnd (sli_ok ⟨by omega, by omega, by omega⟩) fun m hm => hJ _ (by omega)
  · simp at hc; omega
/-- what is so of the sizes of a topology from the tape -/
def TopOk (g : GTopology) : Prop := 1 ≤ g.Routers.length ∧ g.Routers.length ≤ 60 ∧ g.Links.length ≤ 700
end Go.Proofs.Ytjckghpceekieaa
