/- Plain: the topologies that the tape gives without mistakes are valid. No condition. -/
import Derived.Test.YtmcjffllahcclaaGreatPM
namespace Go.Proofs.YtmcjffllahcclaaGreat
set_option linter.all false
open Go

/-- one link of the tape, ahead of the order -/
def coL (l m : GLink) : Prop := l.B < m.B ∨ (l.B = m.B ∧ l.A < m.A)
theorem ord_valid {l : List GLink} (hl : l.length ≤ 1000000) (hd : l.Pairwise coL) : Ok (m_mk_order l) (fun m => m.Pairwise (fun a b => ltL a b = true) ∧ (∀ x, x ∈ m ↔ x ∈ l) ∧ m.length = l.length) := by
  unfold m_mk_order
  refine Ok.forL (fun P m => m.Pairwise (fun a b => ltL a b = true) ∧ (∀ x, x ∈ m ↔ x ∈ P) ∧ m.length = P.length) ?_ _ ⟨by simp, by simp, rfl⟩ fun s hs => Ok.s hs
  rintro P x r s Z hL ⟨i1, i2, i3⟩ hZ
  have hP : P.length < l.length := by rw [hL]; simp
  have hne : ∀ y ∈ s, ltL y x = false → ltL x y = true := fun y hy h => by
    rw [hL] at hd
    have := (List.pairwise_append.1 hd).2.2 y ((i2 y).1 hy) x (by simp)
    simp only [ltL, Bool.or_eq_false_iff, Bool.and_eq_false_iff, decide_eq_false_iff_not, Bool.or_eq_true, Bool.and_eq_true, decide_eq_true_eq] at *
    unfold coL at this
    omega
  refine Ok.whl (fun at1 : Int => (0 ≤ at1 ∧ at1 ≤ s.length) ∧ ∀ y ∈ s.take at1.toNat, ltL y x = true) (fun at1 => ((s.length : Int) - at1).toNat) ⟨by omega, by simp⟩ (by omega) ?_
  rintro a Z2 ⟨⟨ha0, ha1⟩, hlt⟩ hZ2
  refine Ok.jn (fun v : Bool => (v = true → ∃ h : a.toNat < s.length, ltL s[a.toNat] x = true) ∧ (v = false → ∀ h : a.toNat < s.length, ltL s[a.toNat] x = false)) ?_ ?_
  · rintro v ⟨hv, hv2⟩
    refine Ok.cs (fun h => ?_) fun h => ?_
    · obtain ⟨h1, h2⟩ := hv h
      rw [w64_id (by omega) (by omega)]
      refine hZ2 _ ⟨by omega, fun y hy => ?_⟩ (by omega)
      rw [show (a + 1).toNat = a.toNat + 1 by omega, List.take_succ_eq_append_getElem h1] at hy
      rcases List.mem_append.1 hy with hy | hy
      · exact hlt y hy
      · simp at hy; subst hy; exact h2
    · have hv2 := hv2 h
      refine Ok.bnd (sli_ok ⟨by omega, by omega, by omega⟩) fun l1 h1 => ?_
      refine Ok.bnd (app_ok (by simp; omega)) fun l2 h2 => ?_
      refine Ok.bnd (app_ok (by simp at h2 ⊢; omega)) fun l3 h3 => ?_
      refine Ok.bnd (sli_ok ⟨by omega, by omega, by omega⟩) fun l4 h4 => ?_
      refine Ok.bnd (app_ok (by simp at h2 h3 ⊢; omega)) fun l5 h5 => ?_
      have e5 : l5 = s.take a.toNat ++ x :: s.drop a.toNat := by
        rw [h5.1, h3.1, h2.1, h1.1, h4.1]; simp
      have hgt : ∀ y ∈ s.drop a.toNat, ltL x y = true := fun y hy => by
        have hlen : a.toNat < s.length := by
          have := List.length_pos_of_mem hy
          rw [List.length_drop] at this; omega
        rw [List.drop_eq_getElem_cons hlen] at hy
        have h0 := hne _ (List.getElem_mem hlen) (hv2 hlen)
        rcases List.mem_cons.1 hy with rfl | hy
        · exact h0
        · have hp : (s.drop a.toNat).Pairwise (fun a b => ltL a b = true) := i1.sublist (List.drop_sublist _ _)
          rw [List.drop_eq_getElem_cons hlen, List.pairwise_cons] at hp
          exact ltL_trans _ _ _ h0 (hp.1 y hy)
      refine hZ _ ⟨?_, fun y => ?_, ?_⟩
      · rw [e5]
        refine List.pairwise_append.2 ⟨i1.sublist (List.take_sublist _ _), List.pairwise_cons.2 ⟨hgt, i1.sublist (List.drop_sublist _ _)⟩, fun y hy z hz => ?_⟩
        rcases List.mem_cons.1 hz with rfl | hz
        · exact hlt y hy
        · exact ltL_trans _ _ _ (hlt y hy) (hgt z hz)
      · have hs := List.take_append_drop a.toNat s
        have : y ∈ s ↔ y ∈ s.take a.toNat ∨ y ∈ s.drop a.toNat := by rw [← List.mem_append, hs]
        rw [e5, List.mem_append, List.mem_cons, List.mem_append, List.mem_singleton, ← i2 y, this]
        constructor
        · rintro (h | h | h); exact .inl (.inl h); exact .inr h; exact .inl (.inr h)
        · rintro ((h | h) | h); exact .inl h; exact .inr (.inr h); exact .inr (.inl h)
      · rw [e5]; simp; omega
  · intro J hJ
    refine Ok.cs (fun h => ?_) fun h => hJ _ ⟨by simp, fun _ h2 => by simp at h; omega⟩
    simp at h
    refine Ok.bnd (elO_ok ha0 h) fun e he => ?_
    obtain ⟨h1, h2⟩ := List.getElem?_eq_some_iff.1 he.2
    subst h2
    refine Ok.cs (fun g => hJ _ ⟨fun _ => ⟨h1, by simp [ltL]; simp at g; omega⟩, by simp⟩) fun g => ?_
    refine Ok.cs (fun g2 => ?_) fun g2 => hJ _ ⟨by simp, fun _ _ => by simp [ltL]; simp at g g2; omega⟩
    refine hJ _ ⟨fun hd => ⟨h1, ?_⟩, fun hd _ => ?_⟩
    · simp at g g2 hd; simp [ltL]; omega
    · simp at g g2 hd; simp [ltL]; omega
def okLk (l : GLink) : Prop := 1 ≤ l.A ∧ l.A < l.B ∧ (1 ≤ l.CostA ∧ l.CostA ≤ 5) ∧ (1 ≤ l.CostB ∧ l.CostB ≤ 5) ∧ 0 ≤ l.Capacity ∧ l.Capacity ≤ 3
/-- a topology of the tape: the routers from 1 on -/
structure Vg (g : GTopology) (most : Int) : Prop where
  v : Vt g
  n : 1 ≤ g.Routers.length ∧ (g.Routers.length : Int) ≤ most
  i : ∀ r ∈ g.Routers, r.ID ≤ most
theorem topol_valid {t : GTape} {most : Int} (h : TapeOk t) (hm : 1 ≤ most ∧ most ≤ 8) : Ok (m_mk_Tape_Topology t most 0) (fun p => Vg p.1 most ∧ TapeOk p.2) := by
  unfold m_mk_Tape_Topology
  refine Ok.bnd (range_ok h) fun p hp => ?_
  obtain ⟨hk, hp⟩ := hp
  have hk := hk (by omega) (by omega) (by omega)
  refine Ok.chk (by simp; omega) ?_
  refine Ok.forN (fun j (m : List GRouter) => (m.length : Int) = j - 1 ∧ m.Pairwise (fun a b => a.ID < b.ID) ∧ (∀ r ∈ m, 1 ≤ r.ID ∧ r.ID < j) ∧ ∀ i, 1 ≤ i → i < j → ∃ r ∈ m, r.ID = i) 1 (p.1 + 1) ?_ ?_ _ _ _ rfl (by omega) (by omega) ⟨by simp, by simp, by simp, fun i h1 h2 => by omega⟩
  · rintro i s Z h1 h2 ⟨hI, hI2, hI3, hI4⟩ hZ
    refine Ok.bnd (app_ok (by simp; omega)) fun l1 hl1 => hZ _ ⟨by have := hl1.2; simp at this; omega, ?_, ?_, ?_⟩
    · rw [hl1.1]
      refine List.pairwise_append.2 ⟨hI2, by simp, fun a ha b hb => ?_⟩
      have := hI3 a ha
      simp at hb; subst hb; exact this.2
    · rw [hl1.1]; intro r hr
      rcases List.mem_append.1 hr with hr | hr
      · have := hI3 r hr; omega
      · simp at hr; subst hr; simp only; omega
    · rw [hl1.1]; intro j h3 h4
      by_cases e : j = i
      · exact ⟨GRouter.mk i true, List.mem_append_right _ (by simp), e.symm⟩
      · obtain ⟨r, hr, e2⟩ := hI4 j h3 (by omega)
        exact ⟨r, List.mem_append_left _ hr, e2⟩
  rintro i rs hi1 hi2 ⟨hrs, hrs2, hrs3, hrs4⟩
  have hi2 := hi2 (by omega)
  subst hi2
  refine Ok.bnd (pick_ok hp (by decide) (by decide)) fun c hc => ?_
  have hcost : 1 ≤ c.1 ∧ c.1 ≤ 5 := by have := hc.1; simp at this; omega
  refine Ok.chk (by simp; omega) ?_
  refine Ok.forN (fun j (s : List GLink × List Int × Int) => ((s.1.length : Int) ≤ 8 * (j - 2) ∧ (∀ l ∈ s.1, okLk l ∧ l.B < j) ∧ s.1.Pairwise coL) ∧ TapeOk (GTape.mk s.2.1 s.2.2)) 2 (if 2 ≤ p.1 + 1 then p.1 + 1 else 2) ?_ ?_ _ _ _ ?_ (by omega) ?_ ⟨by simp, hc.2⟩
  · intro b s Z hb1 hb2 hI hZ
    have hb3 : b < p.1 + 1 := by split at hb2 <;> omega
    obtain ⟨ms, L, At⟩ := s
    obtain ⟨⟨hlen, hok, hpw⟩, ht⟩ := hI
    simp only at hlen hok hpw
    refine Ok.bnd (range_ok ht) fun tr htr => ?_
    refine Ok.bnd (one_ok htr.2 (by omega)) fun sk hsk => ?_
    refine Ok.chk (by simp; omega) ?_
    refine Ok.forN (fun a (s : List GLink × List Int × Int) => ((s.1.length : Int) ≤ 8 * (b - 2) + (a - 1) ∧ (∀ l ∈ s.1, okLk l ∧ (l.B < b ∨ l.B = b ∧ l.A < a)) ∧ s.1.Pairwise coL) ∧ TapeOk (GTape.mk s.2.1 s.2.2)) 1 b ?_ ?_ _ _ _ rfl (by omega) (by omega) ⟨⟨by simp only; omega, fun l hl => ⟨(hok l hl).1, .inl (hok l hl).2⟩, hpw⟩, hsk⟩
    · intro a s Z3 ha1 ha2 hI3 hZ3
      obtain ⟨m5, m6, m7⟩ := s
      obtain ⟨⟨hl5, hok5, hpw5⟩, ht5⟩ := hI3
      simp only at hl5 hok5 hpw5
      refine Ok.jn (fun s : List Int × Int × List GLink => ((s.2.2.length : Int) ≤ 8 * (b - 2) + a ∧ (∀ l ∈ s.2.2, okLk l ∧ (l.B < b ∨ l.B = b ∧ l.A < a + 1)) ∧ s.2.2.Pairwise coL) ∧ TapeOk (GTape.mk s.1 s.2.1)) (fun s hs => hZ3 _ ⟨by have h := hs.1; obtain ⟨_, _, _⟩ := s; simp only at h ⊢; exact ⟨by omega, h.2⟩, hs.2⟩) fun J1 hJ1 => ?_
      refine Ok.jn (fun s : Bool × List Int × Int => TapeOk (GTape.mk s.2.1 s.2.2)) (fun s hs => ?_) fun J2 hJ2 => ?_
      · obtain ⟨v, m11, m12⟩ := s
        refine Ok.cs (fun _ => ?_) fun _ => hJ1 _ ⟨⟨by simp only; omega, fun l hl => ⟨(hok5 l hl).1, by have := (hok5 l hl).2; omega⟩, hpw5⟩, hs⟩
        refine Ok.bnd (range_ok hs) fun q7 h7 => ?_
        refine Ok.bnd (range_ok h7.2) fun q8 h8 => ?_
        refine Ok.bnd (next_ok h8.2 (by omega)) fun q9 h9 => ?_
        have c7 := h7.1 (by omega) (by omega) (by omega)
        have c8 := h8.1 (by omega) (by omega) (by omega)
        have c9 := h9.1.2.1 (by omega)
        have c90 := h9.1.1
        refine Ok.bnd (app_ok (by simp; omega)) fun l2 hl2 => hJ1 _ ⟨⟨by have := hl2.2; rw [List.length_cons, List.length_nil] at this; simp only; omega, ?_, ?_⟩, h9.2⟩
        · simp only [hl2.1]; intro l hl
          rcases List.mem_append.1 hl with hl | hl
          · exact ⟨(hok5 l hl).1, by have := (hok5 l hl).2; omega⟩
          · simp only [List.mem_singleton] at hl; subst hl
            exact ⟨⟨ha1, ha2, ⟨c7.1, Int.le_trans c7.2 hcost.2⟩, ⟨c8.1, Int.le_trans c8.2 hcost.2⟩, c90, by show q9.1 ≤ 3; omega⟩, .inr ⟨rfl, by show a < a + 1; omega⟩⟩
        · simp only [hl2.1]
          refine List.pairwise_append.2 ⟨hpw5, by simp, fun l hl m hm => ?_⟩
          have := (hok5 l hl).2
          simp at hm; subst hm; unfold coL; simp only; omega
      · refine Ok.cs (fun _ => ?_) fun _ => Ok.bnd (one_ok ht5 (by omega)) fun q h => hJ2 _ h
        exact Ok.cs (fun _ => hJ2 _ ht5) fun _ => Ok.bnd (one_ok ht5 (by omega)) fun q h => hJ2 _ h
    · intro a s ha1 ha2 hI3
      have ha2 := ha2 (by omega)
      obtain ⟨m5, m6, m7⟩ := s
      obtain ⟨⟨hl5, hok5, hpw5⟩, ht5⟩ := hI3
      simp only at hl5 hok5 hpw5
      exact hZ _ ⟨⟨by simp only; omega, fun l hl => ⟨(hok5 l hl).1, by have := (hok5 l hl).2; omega⟩, hpw5⟩, ht5⟩
  · intro b s hb1 hb2 hI
    have hb2 := hb2 (by split <;> omega)
    have hb3 : b ≤ 9 := by split at hb2 <;> omega
    obtain ⟨m2, m3, m4⟩ := s
    obtain ⟨⟨hlen, hok, hpw⟩, ht⟩ := hI
    simp only at hlen hok hpw
    refine Ok.bnd (ord_valid (by omega) hpw) fun l hl => ?_
    obtain ⟨hl1, hl2, hl3⟩ := hl
    have hV : Vg (GTopology.mk rs l) most := by
      have hb4 : b = p.1 + 1 := by split at hb2 <;> omega
      have hends : ∀ x ∈ l, okLk x ∧ x.B < p.1 + 1 := fun x hx => by
        have := hok x ((hl2 x).1 hx)
        exact ⟨this.1, by omega⟩
      refine ⟨⟨by simp only; omega, by simp only; omega, fun r hr => by have := hrs3 r hr; omega, hrs2, fun x hx => ?_, fun x hx => ?_, fun x hx => (hends x hx).1.2.1, hl1⟩, by simp only; omega, fun r hr => by have := hrs3 r hr; omega⟩
      · have := (hends x hx).1
        unfold okLk at this
        have c1 : costB x.CostA = true := by simp [costB]; omega
        have c2 : costB x.CostB = true := by simp [costB]; omega
        simp only [badL, c1, c2, Bool.not_true, Bool.or_self, Bool.false_or, Bool.or_eq_false_iff, decide_eq_false_iff_not]
        omega
      · have := hends x hx
        unfold okLk at this
        obtain ⟨r1, g1, g2⟩ := hrs4 x.A (by omega) (by omega)
        obtain ⟨r2, g3, g4⟩ := hrs4 x.B (by omega) (by omega)
        exact ⟨hasB_iff.2 ⟨r1, g1, g2⟩, hasB_iff.2 ⟨r2, g3, g4⟩⟩
    simp only [jn]
    exact Ok.s ⟨hV, ht⟩
  · split <;> omega
  · split <;> omega
theorem Vt.same_ids {g h : GTopology} (hv : Vt g) (h1 : h.Routers.map (·.ID) = g.Routers.map (·.ID)) (h2 : h.Links = g.Links) : Vt h := by
  have hl : h.Routers.length = g.Routers.length := by have := congrArg List.length h1; simpa using this
  have hh : ∀ x, hasB h x = true ↔ hasB g x = true := fun x => by
    rw [← ids_has, ← ids_has]; unfold ids; rw [h1]
  refine ⟨by rw [hl]; exact hv.nr, by rw [h2]; exact hv.nl, fun r hr => ?_, ?_, by rw [h2]; exact hv.okl, by rw [h2]; simp only [hh]; exact hv.ends, by rw [h2]; exact hv.lt, by rw [h2]; exact hv.ascl⟩
  · have : r.ID ∈ g.Routers.map (·.ID) := by rw [← h1]; exact List.mem_map.2 ⟨r, hr, rfl⟩
    obtain ⟨x, hx, e⟩ := List.mem_map.1 this
    rw [← e]; exact hv.idr x hx
  · have := ids_lt hv
    unfold ids at this
    rw [← h1] at this
    exact List.pairwise_map.1 this
theorem mixed_valid {t : GTape} {most : Int} (h : TapeOk t) (hm : 1 ≤ most ∧ most ≤ 8) : Ok (m_mk_Tape_Mixed t most) (fun p => Vg p.1 most ∧ TapeOk p.2) := by
  unfold m_mk_Tape_Mixed
  refine Ok.bnd (topol_valid h hm) fun q hq => ?_
  obtain ⟨hV, ht⟩ := hq
  have hn := hV.n
  refine Ok.whl (fun s : Int × List GRouter × List Int × Int => (0 ≤ s.1 ∧ s.1 ≤ s.2.1.length) ∧ s.2.1.map (·.ID) = q.1.Routers.map (·.ID) ∧ TapeOk (GTape.mk s.2.2.1 s.2.2.2)) (fun s => ((s.2.1.length : Int) - s.1).toNat) ⟨⟨by simp, by simp⟩, rfl, ht⟩ (by simp only; omega) ?_
  intro s Z hI hZ
  obtain ⟨i, m1, m2, m3⟩ := s
  obtain ⟨⟨h0, h1⟩, h2, ht⟩ := hI
  simp only at h0 h1 h2
  have hl : m1.length = q.1.Routers.length := by have := congrArg List.length h2; simpa using this
  refine Ok.cs (fun hc => ?_) fun _ => Ok.s ⟨⟨hV.v.same_ids h2 rfl, by simp only; omega, fun r hr => ?_⟩, ht⟩
  · have hc : i < m1.length := by simpa using hc
    refine Ok.bnd (one_ok ht (by omega)) fun q2 hq2 => ?_
    refine Ok.bnd (elO_ok h0 hc) fun e he => ?_
    refine Ok.bnd (set_ok h0 hc) fun l1 hl1 => ?_
    rw [w64_id (by omega) (by omega)]
    refine hZ _ ⟨⟨by simp only; omega, by simp only; omega⟩, ?_, hq2⟩ (by simp only; omega)
    simp only
    obtain ⟨g1, g2⟩ := List.getElem?_eq_some_iff.1 he.2
    rw [hl1.1, List.map_set, ← h2, ← g2]
    refine List.ext_getElem (by simp) fun n a b => ?_
    rw [List.getElem_set]
    split
    · rename_i e; subst e; simp
    · rfl
  · have : r.ID ∈ q.1.Routers.map (·.ID) := by rw [← h2]; exact List.mem_map.2 ⟨r, hr, rfl⟩
    obtain ⟨x, hx, e⟩ := List.mem_map.1 this
    rw [← e]; exact hV.i x hx
end Go.Proofs.YtmcjffllahcclaaGreat
