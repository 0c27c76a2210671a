/- Plain: what the tape's readers give. No condition. -/
import Derived.Test.YtckhladakpjlgaaP0
import Derived.Test.YtckhladakpjlgaaD1
import Derived.Test.YtckhladakpjlgaaD3
namespace Go.Proofs.Ytckhladakpjlgaa
set_option linter.all false
open Go

def TapeOk (t : GTape) : Prop := 0 ≤ t.At ∧ t.At ≤ t.L.length ∧ t.L.length ≤ 600
theorem w64_hi (n : Int) : w64 n ≤ 9223372036854775807 ∧ -9223372036854775808 ≤ w64 n := by
  unfold w64
  rw [IntKind.wrap_i64]; omega
theorem cut_ok {x n : Int} (hn : n ≤ 9223372036854775807) : Ok (m_mk_Cut x n) (fun r => 0 ≤ r ∧ (1 ≤ n → r < n) ∧ (n < 1 → r = 0)) := by
  unfold m_mk_Cut
  refine Ok.cs (fun h => Ok.s ?_) fun h => ?_
  · simp at h; omega
  have h : 1 ≤ n := by simpa using h
  have h1 : Int.tmod x n < n := Int.tmod_lt_of_pos _ (by omega)
  have h2 : -n < Int.tmod x n := Int.lt_tmod_of_pos _ (by omega)
  refine Ok.chk (by simp; omega) ?_
  refine Ok.jn (fun r => 0 ≤ r ∧ r < n) (fun s hs => Ok.s ⟨hs.1, fun _ => hs.2, by omega⟩) fun J hJ => ?_
  refine Ok.cs (fun hc => hJ _ ?_) fun hc => hJ _ ?_
  · simp at hc; rw [w64_id (by omega) (by omega)]; omega
  · simp at hc; omega
theorem raw_ok {t : GTape} (h : TapeOk t) : Ok (m_mk_Tape_Raw t) (fun p => TapeOk p.2) := by
  obtain ⟨h0, h1, h2⟩ := h
  unfold m_mk_Tape_Raw
  refine Ok.cs (fun _ => Ok.s ⟨h0, h1, h2⟩) fun hc => ?_
  simp at hc
  have e : w64 (t.At + 1) = t.At + 1 := w64_id (by omega) (by omega)
  rw [e, w64_id (by omega) (by omega)]
  refine Ok.bnd (elO_ok (by omega) (by omega)) fun a _ => Ok.s ⟨?_, ?_, h2⟩ <;> show _ <;> simp <;> omega
theorem next_ok {t : GTape} {n : Int} (h : TapeOk t) (hn : n ≤ 9223372036854775807) : Ok (m_mk_Tape_Next t n) (fun p => (0 ≤ p.1 ∧ (1 ≤ n → p.1 < n) ∧ (n < 1 → p.1 = 0)) ∧ TapeOk p.2) := by
  unfold m_mk_Tape_Next
  exact Ok.bnd (raw_ok h) fun p hp => Ok.bnd (cut_ok hn) fun r hr => Ok.s ⟨hr, hp⟩
theorem range_ok {t : GTape} {low high : Int} (h : TapeOk t) : Ok (m_mk_Tape_Range t low high) (fun p => (-2305843009213693952 ≤ low → low ≤ high → high < 2305843009213693952 → low ≤ p.1 ∧ p.1 ≤ high) ∧ TapeOk p.2) := by
  unfold m_mk_Tape_Range
  refine Ok.bnd (next_ok h (w64_hi _).1) fun p hp => Ok.s ⟨fun h1 h2 h3 => ?_, hp.2⟩
  obtain ⟨⟨q1, q2, _⟩, _⟩ := hp
  rw [w64_id (n := high - low) (by omega) (by omega), w64_id (n := high - low + 1) (by omega) (by omega)] at q2
  show low ≤ w64 (low + p.1) ∧ w64 (low + p.1) ≤ high
  rw [w64_id (by omega) (by omega)]; omega
theorem pick_ok {t : GTape} {l : List Int} (h : TapeOk t) (h0 : 1 ≤ l.length) (h1 : l.length ≤ 1000000) : Ok (m_mk_Tape_Pick t l) (fun p => p.1 ∈ l ∧ TapeOk p.2) := by
  unfold m_mk_Tape_Pick
  refine Ok.bnd (next_ok h (by omega)) fun p hp => ?_
  exact Ok.bnd (elO_ok hp.1.1 (hp.1.2.1 (by omega))) fun a ha => Ok.s ⟨ha.1, hp.2⟩
theorem one_ok {t : GTape} {n : Int} (h : TapeOk t) (hn : n ≤ 9223372036854775807) : Ok (m_mk_Tape_One t n) (fun p => TapeOk p.2) := by
  unfold m_mk_Tape_One
  exact Ok.bnd (next_ok h hn) fun p hp => Ok.s hp.2
theorem wild_ok {t : GTape} (h : TapeOk t) : Ok (m_mk_Tape_Wild t) (fun p => TapeOk p.2) := by
  unfold m_mk_Tape_Wild
  exact Ok.bnd (pick_ok h (by decide) (by decide)) fun p hp => Ok.s hp.2
theorem new_ok (l : List Int) : Ok (m_mk_New l) TapeOk := by
  unfold m_mk_New
  refine Ok.jn (fun m : List Int => m.length ≤ 600) (fun s hs => Ok.s ⟨by simp, by simp, hs⟩) fun J hJ => ?_
  refine Ok.cs (fun hc => ?_) fun hc => hJ _ ?_
  · simp at hc
    exact Ok.bnd (sli_ok ⟨by omega, by omega, by omega⟩) fun m hm => hJ _ (by omega)
  · simp at hc; omega
theorem ord_ok {l : List GLink} (hl : l.length ≤ 1000000) : Ok (m_mk_order l) (fun m => m.length = l.length) := by
  unfold m_mk_order
  refine Ok.forM (fun j m => m.length = j) ?_ _ rfl fun s hs => Ok.s hs
  intro j x s Z hj hx hI hZ
  refine Ok.whl (fun at1 : Int => 0 ≤ at1 ∧ at1 ≤ s.length) (fun at1 => ((s.length : Int) - at1).toNat) ⟨by omega, by omega⟩ (by omega) ?_
  intro a Z2 ⟨ha0, ha1⟩ hZ2
  refine Ok.jn (fun v : Bool => v = true → a < s.length) ?_ ?_
  · intro v hv
    refine Ok.cs (fun h => ?_) fun h => ?_
    · have := hv h
      rw [w64_id (by omega) (by omega)]
      exact hZ2 _ (by omega) (by omega)
    · refine Ok.bnd (sli_ok ⟨by omega, by omega, by omega⟩) fun l1 h1 => ?_
      refine Ok.bnd (app_ok (by simp; omega)) fun l2 h2 => ?_
      refine Ok.bnd (app_ok (by simp at h2 ⊢; omega)) fun l3 h3 => ?_
      refine Ok.bnd (sli_ok ⟨by omega, by omega, by omega⟩) fun l4 h4 => ?_
      refine Ok.bnd (app_ok (by simp at h2 h3 ⊢; omega)) fun l5 h5 => ?_
      exact hZ _ (by simp at h2 h3; omega)
  · intro J hJ
    refine Ok.cs (fun h => ?_) fun h => hJ _ (by simp)
    simp at h
    refine Ok.bnd (elO_ok ha0 h) fun e he => ?_
    exact Ok.cs (fun _ => hJ _ fun _ => h) fun _ => Ok.cs (fun _ => hJ _ fun _ => h) fun _ => hJ _ (by simp)
/-- what is so of the sizes of a topology from the tape -/
def TopOk (g : GTopology) : Prop := 1 ≤ g.Routers.length ∧ g.Routers.length ≤ 60 ∧ g.Links.length ≤ 700
theorem topol_ok {t : GTape} {most n : Int} (h : TapeOk t) (hm : 1 ≤ most ∧ most ≤ 24) (hn : n ≤ 9223372036854775807) : Ok (m_mk_Tape_Topology t most n) (fun p => TopOk p.1 ∧ TapeOk p.2) := by
  unfold m_mk_Tape_Topology
  refine Ok.bnd (range_ok h) fun p hp => ?_
  obtain ⟨hk, hp⟩ := hp
  have hk := hk (by omega) (by omega) (by omega)
  refine Ok.chk (by simp; omega) ?_
  refine Ok.forN (fun j m => (m.length : Int) = j - 1) 1 (p.1 + 1) ?_ ?_ _ _ _ rfl (by omega) (by omega) (by simp)
  · intro i s Z h1 h2 hI hZ
    refine Ok.bnd (app_ok (by simp; omega)) fun l1 hl1 => hZ _ ?_
    simp at hl1; omega
  intro i rs hi1 hi2 hrs
  have hi2 := hi2 (by omega)
  subst hi2
  refine Ok.bnd (pick_ok hp (by decide) (by decide)) fun c hc => ?_
  have hcost : 1 ≤ c.1 ∧ c.1 ≤ 5 := by have := hc.1; simp at this; omega
  refine Ok.chk (by simp; omega) ?_
  refine Ok.forN (fun j (s : List GLink × List Int × Int) => (s.1.length : Int) ≤ 24 * (j - 2) ∧ TapeOk (GTape.mk s.2.1 s.2.2)) 2 (if 2 ≤ p.1 + 1 then p.1 + 1 else 2) ?_ ?_ _ _ _ ?_ (by omega) ?_ ⟨by simp, hc.2⟩
  · intro b s Z hb1 hb2 hI hZ
    have hb3 : b < p.1 + 1 := by split at hb2 <;> omega
    obtain ⟨ms, L, At⟩ := s
    obtain ⟨hlen, ht⟩ := hI
    refine Ok.bnd (range_ok ht) fun tr htr => ?_
    refine Ok.bnd (one_ok htr.2 (by omega)) fun sk hsk => ?_
    refine Ok.chk (by simp; omega) ?_
    refine Ok.forN (fun a (s : List GLink × List Int × Int) => (s.1.length : Int) ≤ 24 * (b - 2) + (a - 1) ∧ TapeOk (GTape.mk s.2.1 s.2.2)) 1 b ?_ ?_ _ _ _ rfl (by omega) (by omega) ⟨by simp at hlen ⊢; omega, hsk⟩
    · intro a s Z3 ha1 ha2 hI3 hZ3
      obtain ⟨m5, m6, m7⟩ := s
      obtain ⟨hl5, ht5⟩ := hI3
      simp only at hl5
      refine Ok.jn (fun s : List Int × Int × List GLink => (s.2.2.length : Int) ≤ 24 * (b - 2) + a ∧ TapeOk (GTape.mk s.1 s.2.1)) (fun s hs => hZ3 _ ⟨by have h := hs.1; obtain ⟨_, _, _⟩ := s; simp only at h ⊢; omega, hs.2⟩) fun J1 hJ1 => ?_
      refine Ok.jn (fun s : Bool × List Int × Int => TapeOk (GTape.mk s.2.1 s.2.2)) (fun s hs => ?_) fun J2 hJ2 => ?_
      · obtain ⟨v, m11, m12⟩ := s
        refine Ok.cs (fun _ => ?_) fun _ => hJ1 _ ⟨by simp only; omega, hs⟩
        refine Ok.bnd (range_ok hs) fun q7 h7 => ?_
        refine Ok.bnd (range_ok h7.2) fun q8 h8 => ?_
        refine Ok.bnd (next_ok h8.2 (by omega)) fun q9 h9 => ?_
        refine Ok.bnd (app_ok (by simp; omega)) fun l2 hl2 => hJ1 _ ⟨?_, h9.2⟩
        simp at hl2; simp only; omega
      · refine Ok.cs (fun _ => ?_) fun _ => Ok.bnd (one_ok ht5 (by omega)) fun q h => hJ2 _ h
        exact Ok.cs (fun _ => hJ2 _ ht5) fun _ => Ok.bnd (one_ok ht5 (by omega)) fun q h => hJ2 _ h
    · intro a s ha1 ha2 hI3
      have ha2 := ha2 (by omega)
      exact hZ _ ⟨by have := hI3.1; simp only; omega, hI3.2⟩
  · intro b s hb1 hb2 hI
    have hb2 := hb2 (by split <;> omega)
    have hb3 : b ≤ 25 := by split at hb2 <;> omega
    obtain ⟨m2, m3, m4⟩ := s
    obtain ⟨hlen, ht⟩ := hI
    simp only at hlen
    refine Ok.bnd (ord_ok (by omega)) fun l hl => ?_
    refine Ok.jn (fun s : List Int × Int × List GRouter × List GLink => TopOk (GTopology.mk s.2.2.1 s.2.2.2) ∧ TapeOk (GTape.mk s.1 s.2.1)) (fun s hs => Ok.s hs) fun J3 hJ3 => ?_
    refine Ok.jn (fun s : Bool × List Int × Int => TapeOk (GTape.mk s.2.1 s.2.2)) (fun s hs => ?_) fun J4 hJ4 => ?_
    · obtain ⟨v, m17, m18⟩ := s
      have base : ∀ (l' : List GLink) (t' : GTape), l'.length ≤ 700 → TapeOk t' → Ok (J3 (t'.L, t'.At, rs, l')) _ := fun l' t' h1 h2 => hJ3 _ ⟨⟨by simp only; omega, by simp only; omega, h1⟩, h2⟩
      refine Ok.cs (fun _ => ?_) fun _ => base l (GTape.mk m17 m18) (by omega) hs
      refine Ok.bnd (next_ok hs (by omega)) fun q hq => ?_
      refine Ok.cs (fun _ => ?_) fun _ => ?_
      · refine Ok.bnd (pick_ok hq.2 (by decide) (by decide)) fun q2 hq2 => ?_
        refine Ok.bnd (app_ok (by simp; omega)) fun l3 hl3 => hJ3 _ ⟨⟨?_, ?_, ?_⟩, hq2.2⟩ <;> simp at hl3 ⊢ <;> omega
      refine Ok.cs (fun _ => ?_) fun _ => ?_
      · refine Ok.bnd (next_ok hq.2 (by omega)) fun q2 hq2 => ?_
        refine Ok.bnd (next_ok hq2.2 (by omega)) fun q3 hq3 => ?_
        refine Ok.bnd (app_ok (by simp; omega)) fun l3 hl3 => base _ _ (by simp at hl3; omega) hq3.2
      have wild : ∀ (f : GLink → Int → GLink), Ok (bif decide ((0:Int) < (l.length:Int)) then bnd (m_mk_Tape_Next q.2 (l.length:Int)) fun (vx_16 : Int × GTape) => bnd (m_mk_Tape_Wild vx_16.2) fun (vx_17 : Int × GTape) => bnd (elO l vx_16.1) fun (e_1 : GLink) => bnd (setO l vx_16.1 (f e_1 vx_17.1)) fun (l_5 : List GLink) => J3 (vx_17.2.L, vx_17.2.At, rs, l_5) else J3 (q.2.L, q.2.At, rs, l)) _ := fun f => by
        refine Ok.cs (fun h => ?_) fun _ => base l _ (by omega) hq.2
        simp at h
        refine Ok.bnd (next_ok hq.2 (by omega)) fun q2 hq2 => ?_
        refine Ok.bnd (wild_ok hq2.2) fun q3 hq3 => ?_
        have hlt := hq2.1.2.1 (by omega)
        refine Ok.bnd (elO_ok hq2.1.1 hlt) fun e _ => ?_
        refine Ok.bnd (set_ok hq2.1.1 hlt) fun l5 h5 => base _ _ (by omega) hq3
      refine Ok.cs (fun _ => wild (fun e x => GLink.mk e.A e.B x e.CostB e.Capacity)) fun _ => ?_
      refine Ok.cs (fun _ => wild (fun e x => GLink.mk e.A e.B e.CostA x e.Capacity)) fun _ => ?_
      refine Ok.cs (fun _ => wild (fun e x => GLink.mk e.A e.B e.CostA e.CostB x)) fun _ => ?_
      refine Ok.cs (fun _ => ?_) fun _ => ?_
      · refine Ok.cs (fun h => ?_) fun _ => base l _ (by omega) hq.2
        simp at h
        refine Ok.bnd (next_ok hq.2 (by omega)) fun q2 hq2 => ?_
        refine Ok.bnd (elO_ok hq2.1.1 (hq2.1.2.1 (by omega))) fun e _ => ?_
        refine Ok.bnd (app_ok (by simp; omega)) fun l3 hl3 => base _ _ (by simp at hl3; omega) hq2.2
      · refine Ok.forN (fun j m => (m.length : Int) ≤ 24 + (j - 50) ∧ 1 ≤ m.length) 50 75 ?_ ?_ _ _ _ rfl (by omega) (by omega) ⟨by omega, by omega⟩
        · intro i s Z h1 h2 hI hZ
          refine Ok.bnd (app_ok (by simp; omega)) fun l1 hl1 => hZ _ ?_
          simp at hl1; omega
        · intro i s h1 h2 hI
          have h2 := h2 (by omega)
          exact hJ3 _ ⟨⟨by simp only; omega, by simp only; omega, by simp only; omega⟩, hq.2⟩
    · refine Ok.cs (fun _ => Ok.bnd (one_ok ht hn) fun q hq => hJ4 _ hq) fun _ => hJ4 _ ht
  · split <;> omega
  · split <;> omega
end Go.Proofs.Ytckhladakpjlgaa
