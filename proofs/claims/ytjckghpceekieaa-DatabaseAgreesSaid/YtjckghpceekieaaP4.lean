/- Plain: who is connected with whom. No condition. -/
import Derived.Test.YtjckghpceekieaaP3
namespace Go.Proofs.Ytjckghpceekieaa
set_option linter.all false
open Go

/-- loops, with what was passed: for whatever is asked of the outcome -/
theorem gforL {α σ β : Type} {B : Int → α → (σ → Option β) → σ → Option β} {K : σ → Option β} {G : Option β → Prop} (I : List α → σ → Prop) {L : List α}
    (hc : ∀ (p : List α) x r s Z, L = p ++ x :: r → I p s → (∀ s', I (p ++ [x]) s' → G (Z s')) → G (B (p.length : Int) x Z s)) (s : σ) (h : I [] s) (hn : ∀ s, I L s → G (K s)) : G (forI L 0 B K s) := by
  have key : ∀ (l p : List α) (s : σ), L = p ++ l → I p s → G (forI l p.length B K s) := by
    intro l
    induction l with
    | nil => intro p s hj h; exact hn s (by rw [hj, List.append_nil]; exact h)
    | cons x r ih =>
      intro p s hj h
      refine hc p x r s _ hj h fun s' h' => ?_
      have := ih (p ++ [x]) s' (by simp [hj]) h'
      rwa [List.length_append] at this
  exact key L [] s rfl h
theorem gforN {σ β : Type} {B : Int → (σ → Option β) → σ → Option β} {K : Int → σ → Option β} {G : Option β → Prop} (I : Int → σ → Prop) (lo hi : Int)
    (hc : ∀ (i : Int) s Z, lo ≤ i → i < hi → I i s → (∀ s', I (i + 1) s' → G (Z s')) → G (B i Z s)) (hn : ∀ i s, lo ≤ i → (lo ≤ hi → i = hi) → I i s → G (K i s)) : ∀ (n : Nat) (i : Int) (s : σ), n = (hi - i).toNat → lo ≤ i → (lo ≤ hi → i ≤ hi) → I i s → G (forN n i B K s)
  | 0, i, s, hn0, h1, h2, h => hn i s h1 (fun hh => by have := h2 hh; omega) h
  | n + 1, i, s, hn0, h1, h2, h => hc i s _ h1 (by omega) h fun s' h' => gforN I lo hi hc hn n (i + 1) s' (by omega) (by omega) (fun _ => by omega) h'
theorem gwhl {σ β : Type} {F : (σ → Option β) → σ → Option β} {G : Option β → Prop} (I : σ → Prop) (μ : σ → Nat) {s : σ} (h : I s) (hm : μ s < 1099511627776)
    (hc : ∀ s Z, I s → (∀ s', I s' → μ s' < μ s → G (Z s')) → G (F Z s)) : G (whl F s) := by
  have key : ∀ (n : Nat) (s : σ), I s → μ s < n → G (iter F n s) := by
    intro n
    induction n with
    | zero => intro s _ h; omega
    | succ n ih => intro s h hm; exact hc s _ h fun s' h' hm' => ih s' h' (by omega)
  exact key fuel s h hm
/-- a loop, with what was passed -/
theorem Ok.forL {α σ β : Type} {B : Int → α → (σ → Option β) → σ → Option β} {K : σ → Option β} {Q : β → Prop} (I : List α → σ → Prop) {L : List α}
    (hc : ∀ (p : List α) x r s Z, L = p ++ x :: r → I p s → (∀ s', I (p ++ [x]) s' → Ok (Z s') Q) → Ok (B (p.length : Int) x Z s) Q) (s : σ) (h : I [] s) (hn : ∀ s, I L s → Ok (K s) Q) : Ok (Go.Proofs.Ytjckghpceekieaa.forI L 0 B K s) Q := by
  have key : ∀ (l p : List α) (s : σ), L = p ++ l → I p s → Ok (Go.Proofs.Ytjckghpceekieaa.forI l p.length B K s) Q := by
    intro l
    induction l with
    | nil => intro p s hj h; exact hn s (by rw [hj, List.append_nil]; exact h)
    | cons x r ih =>
      intro p s hj h
      refine hc p x r s _ hj h fun s' h' => ?_
      have := ih (p ++ [x]) s' (by simp [hj]) h'
      rwa [List.length_append] at this
  exact key L [] s rfl h
theorem nodup_len {a b : List Int} (h : a.Nodup) (hs : ∀ x ∈ a, x ∈ b) : a.length ≤ b.length := by
  induction a generalizing b with
  | nil => simp
  | cons x a ih =>
    rw [List.nodup_cons] at h
    have hx := hs x (by simp)
    have := ih (b := b.erase x) h.2 fun y hy => (List.mem_erase_of_ne (fun e => h.1 (by rw [← e]; exact hy))).2 (hs y (by simp [hy]))
    rw [List.length_erase_of_mem hx] at this
    have := List.length_pos_of_mem hx
    simp only [List.length_cons]; omega

inductive Cn (t : GTopology) (c : List Int) : Int → Int → Prop
  | refl {a : Int} (h : a ∉ c) : Cn t c a a
  | step {a b d : Int} (h : Cn t c a b) (ha : adjT t b d = true) (hd : d ∉ c) : Cn t c a d
theorem Cn.trans {t : GTopology} {c : List Int} {a b d : Int} (h1 : Cn t c a b) (h2 : Cn t c b d) : Cn t c a d := by
  induction h2 with
  | refl _ => exact h1
  | step _ ha hd ih => exact .step ih ha hd
theorem Cn.left {t : GTopology} {c : List Int} {a b : Int} (h : Cn t c a b) : a ∉ c := by
  induction h with
  | refl h => exact h
  | step _ _ _ ih => exact ih
theorem Cn.right {t : GTopology} {c : List Int} {a b : Int} (h : Cn t c a b) : b ∉ c := by
  cases h with
  | refl h => exact h
  | step _ _ hd => exact hd
theorem Cn.symm {t : GTopology} {c : List Int} {a b : Int} (h : Cn t c a b) : Cn t c b a := by
  induction h with
  | refl h => exact .refl h
  | step h ha hd ih => exact (Cn.step (.refl hd) (adj_symm ha) h.right).trans ih
theorem Cn.ids {t : GTopology} (hv : Vt t) {c : List Int} {a b : Int} (h : Cn t c a b) (ha : a ∈ ids t) : b ∈ ids t := by
  cases h with
  | refl h => exact ha
  | step _ hd _ => exact adj_ids hv hd
theorem Cn.stays {t : GTopology} {c : List Int} {S : Int → Prop} {a b : Int} (h : Cn t c a b) (ha : S a) (hs : ∀ x, S x → ∀ y, adjT t x y = true → S y ∨ y ∈ c) : S b := by
  induction h with
  | refl _ => exact ha
  | step _ hd hc ih => exact (hs _ ih _ hd).resolve_right hc
open Classical in
noncomputable def compL (t : GTopology) (c : List Int) (r : Int) : List Int := (ids t).filter fun x => decide (Cn t c r x)
theorem compL_mem {t : GTopology} (hv : Vt t) {c : List Int} {r x : Int} (hr : r ∈ ids t) : x ∈ compL t c r ↔ Cn t c r x := by
  unfold compL
  rw [List.mem_filter]
  simp only [decide_eq_true_eq]
  exact ⟨fun h => h.2, fun h => ⟨h.ids hv hr, h⟩⟩
theorem compL_lt {t : GTopology} (hv : Vt t) (c : List Int) (r : Int) : (compL t c r).Pairwise (· < ·) := (ids_lt hv).sublist List.filter_sublist
theorem ids_len {t : GTopology} (hv : Vt t) : (ids t).length ≤ 24 := by have := hv.nr; simpa [ids] using this
theorem compL_len {t : GTopology} (hv : Vt t) (c : List Int) (r : Int) : (compL t c r).length ≤ 24 := Nat.le_trans (List.length_filter_le _ _) (ids_len hv)

theorem ins_ok {l : List Int} {n : Int} (hl : l.Pairwise (· < ·)) (hlen : l.length ≤ 1000000) : Ok (m_ref04_Insert l n) (fun m => m.Pairwise (· < ·) ∧ ∀ x, x ∈ m ↔ x = n ∨ x ∈ l) := by
  unfold m_ref04_Insert
  refine Ok.whl (fun a : Int => (0 ≤ a ∧ a ≤ l.length) ∧ ∀ x ∈ l.take a.toNat, x < n) (fun a => ((l.length : Int) - a).toNat) ⟨⟨by omega, by omega⟩, by simp⟩ (by omega) ?_
  rintro a Z ⟨⟨h0, h1⟩, hlt⟩ hZ
  have split : l.take a.toNat ++ l.drop a.toNat = l := List.take_append_drop _ _
  refine Ok.jn (fun v : Bool => (v = true → a < l.length ∧ ∀ x ∈ l.take (a + 1).toNat, x < n) ∧ (v = false → ∀ x ∈ l.drop a.toNat, n ≤ x)) (fun v hv => ?_) fun J hJ => ?_
  · refine Ok.cs (fun h => ?_) fun h => ?_
    · obtain ⟨q1, q2⟩ := hv.1 h
      rw [w64_id (by omega) (by omega)]
      exact hZ _ ⟨⟨by omega, by omega⟩, q2⟩ (by omega)
    · have hge := hv.2 h
      refine Ok.jn (fun v : Bool => (v = true → n ∈ l) ∧ (v = false → ∀ x ∈ l.drop a.toNat, n < x)) (fun v hv => ?_) fun J2 hJ2 => ?_
      · refine Ok.cs (fun h => Ok.s ⟨hl, fun x => ⟨.inr, ?_⟩⟩) fun h => ?_
        · rintro (rfl | hx)
          · exact hv.1 h
          · exact hx
        · have hgt := hv.2 h
          refine Ok.bnd (sli_ok ⟨by omega, by omega, by omega⟩) fun l1 e1 => ?_
          refine Ok.bnd (app_ok (by simp; omega)) fun l2 e2 => ?_
          refine Ok.bnd (app_ok (by simp at e2 ⊢; omega)) fun l3 e3 => ?_
          refine Ok.bnd (sli_ok ⟨by omega, by omega, by omega⟩) fun l4 e4 => ?_
          refine Ok.bnd (app_ok (by simp at e2 e3 ⊢; omega)) fun l5 e5 => ?_
          have f : l5 = l.take a.toNat ++ n :: l.drop a.toNat := by
            rw [e5.1, e4.1, e3.1, e2.1, e1.1]; simp
          refine Ok.s ?_
          rw [f]
          have hl' := hl
          rw [← split, List.pairwise_append] at hl'
          obtain ⟨p1, p2, p3⟩ := hl'
          refine ⟨?_, fun x => ?_⟩
          · rw [List.pairwise_append, List.pairwise_cons]
            refine ⟨p1, ⟨fun y hy => hgt y hy, p2⟩, fun x hx y hy => ?_⟩
            rcases List.mem_cons.1 hy with rfl | hy
            · exact hlt x hx
            · exact p3 x hx y hy
          · have : x ∈ l ↔ x ∈ l.take a.toNat ∨ x ∈ l.drop a.toNat := by rw [← List.mem_append, split]
            rw [this]; simp only [List.mem_append, List.mem_cons]
            constructor
            · rintro (h | h | h) <;> simp [h]
            · rintro (h | h | h) <;> simp [h]
      · refine Ok.cs (fun hc => ?_) fun hc => hJ2 _ ⟨by simp, fun _ x hx => ?_⟩
        · have hc : a < l.length := by simpa using hc
          refine Ok.bnd (elO_ok h0 hc) fun e he => hJ2 _ ⟨fun h => ?_, fun h x hx => ?_⟩
          · have : e = n := by simpa using h
            rw [← this]; exact he.1
          · have hne : e ≠ n := by simpa using h
            have hd : l.drop a.toNat = e :: l.drop (a.toNat + 1) := by
              have hi : a.toNat < l.length := by omega
              rw [List.drop_eq_getElem_cons hi]
              have := he.2
              rw [List.getElem?_eq_getElem hi] at this
              injection this with this
              rw [this]
            have hen := hge e (by rw [hd]; simp)
            rw [hd] at hx
            rcases List.mem_cons.1 hx with rfl | hx
            · omega
            · have hp : (l.drop a.toNat).Pairwise (· < ·) := hl.sublist (List.drop_sublist _ _)
              rw [hd, List.pairwise_cons] at hp
              have := hp.1 x hx; omega
        · have hc : (l.length : Int) ≤ a := by simpa using hc
          rw [List.drop_eq_nil_of_le (by omega)] at hx
          simp at hx
  · refine Ok.cs (fun hc => ?_) fun hc => hJ _ ⟨by simp, fun _ x hx => ?_⟩
    · have hc : a < l.length := by simpa using hc
      have hi : a.toNat < l.length := by omega
      refine Ok.bnd (elO_ok h0 hc) fun e he => ?_
      have hev := he.2
      rw [List.getElem?_eq_getElem hi] at hev
      injection hev with hev
      have hd : l.drop a.toNat = e :: l.drop (a.toNat + 1) := by rw [List.drop_eq_getElem_cons hi, hev]
      refine hJ _ ⟨fun h => ⟨hc, fun x hx => ?_⟩, fun h x hx => ?_⟩
      · have hen : e < n := by simpa using h
        rw [show (a + 1).toNat = a.toNat + 1 by omega, List.take_succ_eq_append_getElem hi, hev] at hx
        rcases List.mem_append.1 hx with hx | hx
        · exact hlt x hx
        · simp at hx; omega
      · have hen : n ≤ e := by simpa using h
        rw [hd] at hx
        rcases List.mem_cons.1 hx with rfl | hx
        · exact hen
        · have hp : (l.drop a.toNat).Pairwise (· < ·) := hl.sublist (List.drop_sublist _ _)
          rw [hd, List.pairwise_cons] at hp
          have := hp.1 x hx; omega
    · have hc : (l.length : Int) ≤ a := by simpa using hc
      rw [List.drop_eq_nil_of_le (by omega)] at hx
      simp at hx
theorem ref_around {t : GTopology} (hv : Vt t) {r : Int} (hr : r ∈ ids t) : m_ref05_Around t r = some (compL t [] r) := by
  refine Ok.eq ?_
  have hil := ids_len hv
  unfold m_ref05_Around
  refine Ok.whl (fun s : List Int × Int => (0 ≤ s.2 ∧ s.2 ≤ s.1.length) ∧ s.1.Nodup ∧ (∀ x ∈ s.1, Cn t [] r x) ∧ r ∈ s.1 ∧ (∀ x ∈ s.1.take s.2.toNat, ∀ y, adjT t x y = true → y ∈ s.1))
    (fun s => ((25 : Int) - s.2).toNat) ⟨⟨by simp, by simp⟩, by simp, by intro x hx; simp at hx; subst hx; exact .refl (by simp), by simp, by simp⟩ (by simp only; omega) ?_
  rintro ⟨out, i⟩ Z ⟨⟨h0, h1⟩, hnd, hcn, hro, had⟩ hZ
  simp only at h0 h1 hnd hcn hro had
  have hsub : ∀ {l : List Int}, (∀ x ∈ l, Cn t [] r x) → l.Nodup → l.length ≤ 24 := fun {l} h hn => Nat.le_trans (nodup_len hn fun x hx => (h x hx).ids hv hr) hil
  have hol := hsub hcn hnd
  refine Ok.cs (fun hc => ?_) fun hc => ?_
  · have hc : i < out.length := by simpa using hc
    have hi : i.toNat < out.length := by omega
    refine Ok.bnd (elO_ok h0 hc) fun e he => ?_
    have hev := he.2
    rw [List.getElem?_eq_getElem hi] at hev
    injection hev with hev
    rw [ref_near hv, bnd_s]
    refine Ok.forL (fun p o => (∃ new, o = out ++ new) ∧ o.Nodup ∧ (∀ x ∈ o, Cn t [] r x) ∧ ∀ y ∈ p, y ∈ o) ?_ _ ⟨⟨[], by simp⟩, hnd, hcn, by simp⟩ ?_
    · rintro p x rest o Z2 hL ⟨⟨new, ho⟩, hond, hocn, hp⟩ hZ2
      have hadj : adjT t e x = true := (nearL_mem hv).1 (by rw [hL]; simp)
      have hcx : Cn t [] r x := .step (hcn e he.1) hadj (by simp)
      have hlo := hsub hocn hond
      simp only [jn, has_int, bnd_s]
      by_cases hx : x ∈ o
      · simp only [hx, decide_true, Bool.not_true, cond_false]
        refine hZ2 _ ⟨⟨new, ho⟩, hond, hocn, fun y hy => ?_⟩
        rcases List.mem_append.1 hy with hy | hy
        · exact hp y hy
        · simp at hy; subst hy; exact hx
      · simp only [hx, decide_false, Bool.not_false, cond_true]
        rw [appO_ok (by simp; omega), bnd_s]
        refine hZ2 _ ⟨⟨new ++ [x], by rw [ho]; simp⟩, ?_, fun y hy => ?_, fun y hy => ?_⟩
        · rw [List.nodup_append]
          refine ⟨hond, by simp, fun a ha b hb => ?_⟩
          simp at hb; subst hb; exact fun e => hx (e ▸ ha)
        · rcases List.mem_append.1 hy with hy | hy
          · exact hocn y hy
          · simp at hy; subst hy; exact hcx
        · rcases List.mem_append.1 hy with hy | hy
          · exact List.mem_append_left _ (hp y hy)
          · exact List.mem_append_right _ hy
    · rintro o ⟨⟨new, ho⟩, hond, hocn, hp⟩
      have hlo := hsub hocn hond
      rw [w64_id (by omega) (by omega)]
      refine hZ _ ⟨⟨by simp only; omega, by simp only [ho, List.length_append]; omega⟩, hond, hocn, by rw [ho]; simp [hro], ?_⟩ (by simp only; omega)
      intro x hx y hy
      simp only at hx ⊢
      rw [show (i + 1).toNat = i.toNat + 1 by omega, ho, List.take_append_of_le_length (by omega), List.take_succ_eq_append_getElem hi, hev] at hx
      rcases List.mem_append.1 hx with hx | hx
      · rw [ho]; exact List.mem_append_left _ (had x hx y hy)
      · simp at hx; subst hx
        exact hp y ((nearL_mem hv).2 hy)
  · have hc : (out.length : Int) ≤ i := by simpa using hc
    rw [List.take_of_length_le (by omega)] at had
    refine Ok.forL (fun p m => m.Pairwise (· < ·) ∧ ∀ x, x ∈ m ↔ x ∈ p) ?_ _ ⟨by simp, by simp⟩ ?_
    · rintro p x rest m Z2 hL ⟨hm1, hm2⟩ hZ2
      have hnm : m.Nodup := hm1.imp (fun h => by omega)
      have : m.length ≤ 24 := hsub (fun y hy => hcn y (by rw [hL]; exact List.mem_append_left _ ((hm2 y).1 hy))) hnm
      refine Ok.bnd (ins_ok hm1 (by omega)) fun m2 ⟨q1, q2⟩ => hZ2 _ ⟨q1, fun y => ?_⟩
      rw [q2, hm2]; simp [or_comm]
    · rintro m ⟨hm1, hm2⟩
      refine Ok.s (lt_unique hm1 (compL_lt hv [] r) fun x => ?_)
      rw [hm2, compL_mem hv hr]
      exact ⟨hcn x, fun h => h.stays (S := fun x => x ∈ out) hro fun x hx y hy => .inl (had x hx y hy)⟩
end Go.Proofs.Ytjckghpceekieaa
