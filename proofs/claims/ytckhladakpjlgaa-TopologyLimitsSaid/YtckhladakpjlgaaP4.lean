/- Plain: who is connected with whom. No condition. -/
import Derived.Test.YtckhladakpjlgaaP3
namespace Go.Proofs.Ytckhladakpjlgaa
set_option linter.all false
open Go

/-- loops, with what was passed: for whatever is asked of the outcome -/
theorem gforL {α σ β : Type} {B : Int → α → (σ → Option β) → σ → Option β} {K : σ → Option β} {G : Option β → Prop} (I : List α → σ → Prop) {L : List α}
    (hc : ∀ (p : List α) x r s Z, L = p ++ x :: r → I p s → (∀ s', I (p ++ [x]) s' → G (Z s')) → G (B (p.length : Int) x Z s)) (s : σ) (h : I [] s) (hn : ∀ s, I L s → G (K s)) : G (forI L 0 B K s) := by
  have key : ∀ (l p : List α) (s : σ), L = p ++ l → I p s → G (forI l p.length B K s) := by
    intro l
    induction l with
    | nil => intro p s hj h; exact hn s (by rw [hj, List.append_nil]; exact h)
    | cons x r ih =>
      intro p s hj h
      refine hc p x r s _ hj h fun s' h' => ?_
      have := ih (p ++ [x]) s' (by simp [hj]) h'
      rwa [List.length_append] at this
  exact key L [] s rfl h
theorem gforN {σ β : Type} {B : Int → (σ → Option β) → σ → Option β} {K : Int → σ → Option β} {G : Option β → Prop} (I : Int → σ → Prop) (lo hi : Int)
    (hc : ∀ (i : Int) s Z, lo ≤ i → i < hi → I i s → (∀ s', I (i + 1) s' → G (Z s')) → G (B i Z s)) (hn : ∀ i s, lo ≤ i → (lo ≤ hi → i = hi) → I i s → G (K i s)) : ∀ (n : Nat) (i : Int) (s : σ), n = (hi - i).toNat → lo ≤ i → (lo ≤ hi → i ≤ hi) → I i s → G (forN n i B K s)
  | 0, i, s, hn0, h1, h2, h => hn i s h1 (fun hh => by have := h2 hh; omega) h
  | n + 1, i, s, hn0, h1, h2, h => hc i s _ h1 (by omega) h fun s' h' => gforN I lo hi hc hn n (i + 1) s' (by omega) (by omega) (fun _ => by omega) h'
theorem gwhl {σ β : Type} {F : (σ → Option β) → σ → Option β} {G : Option β → Prop} (I : σ → Prop) (μ : σ → Nat) {s : σ} (h : I s) (hm : μ s < 1099511627776)
    (hc : ∀ s Z, I s → (∀ s', I s' → μ s' < μ s → G (Z s')) → G (F Z s)) : G (whl F s) := by
  have key : ∀ (n : Nat) (s : σ), I s → μ s < n → G (iter F n s) := by
    intro n
    induction n with
    | zero => intro s _ h; omega
    | succ n ih => intro s h hm; exact hc s _ h fun s' h' hm' => ih s' h' (by omega)
  exact key fuel s h hm
/-- a loop, with what was passed -/
theorem Ok.forL {α σ β : Type} {B : Int → α → (σ → Option β) → σ → Option β} {K : σ → Option β} {Q : β → Prop} (I : List α → σ → Prop) {L : List α}
    (hc : ∀ (p : List α) x r s Z, L = p ++ x :: r → I p s → (∀ s', I (p ++ [x]) s' → Ok (Z s') Q) → Ok (B (p.length : Int) x Z s) Q) (s : σ) (h : I [] s) (hn : ∀ s, I L s → Ok (K s) Q) : Ok (Go.Proofs.Ytckhladakpjlgaa.forI L 0 B K s) Q := by
  have key : ∀ (l p : List α) (s : σ), L = p ++ l → I p s → Ok (Go.Proofs.Ytckhladakpjlgaa.forI l p.length B K s) Q := by
    intro l
    induction l with
    | nil => intro p s hj h; exact hn s (by rw [hj, List.append_nil]; exact h)
    | cons x r ih =>
      intro p s hj h
      refine hc p x r s _ hj h fun s' h' => ?_
      have := ih (p ++ [x]) s' (by simp [hj]) h'
      rwa [List.length_append] at this
  exact key L [] s rfl h
theorem nodup_len {a b : List Int} (h : a.Nodup) (hs : ∀ x ∈ a, x ∈ b) : a.length ≤ b.length := by
  induction a generalizing b with
  | nil => simp
  | cons x a ih =>
    rw [List.nodup_cons] at h
    have hx := hs x (by simp)
    have := ih (b := b.erase x) h.2 fun y hy => (List.mem_erase_of_ne (fun e => h.1 (by rw [← e]; exact hy))).2 (hs y (by simp [hy]))
    rw [List.length_erase_of_mem hx] at this
    have := List.length_pos_of_mem hx
    simp only [List.length_cons]; omega

inductive Cn (t : GTopology) (c : List Int) : Int → Int → Prop
  | refl {a : Int} (h : a ∉ c) : Cn t c a a
  | step {a b d : Int} (h : Cn t c a b) (ha : adjT t b d = true) (hd : d ∉ c) : Cn t c a d
theorem Cn.trans {t : GTopology} {c : List Int} {a b d : Int} (h1 : Cn t c a b) (h2 : Cn t c b d) : Cn t c a d := by
  induction h2 with
  | refl _ => exact h1
  | step _ ha hd ih => exact .step ih ha hd
theorem Cn.left {t : GTopology} {c : List Int} {a b : Int} (h : Cn t c a b) : a ∉ c := by
  induction h with
  | refl h => exact h
  | step _ _ _ ih => exact ih
theorem Cn.right {t : GTopology} {c : List Int} {a b : Int} (h : Cn t c a b) : b ∉ c := by
  cases h with
  | refl h => exact h
  | step _ _ hd => exact hd
theorem Cn.symm {t : GTopology} {c : List Int} {a b : Int} (h : Cn t c a b) : Cn t c b a := by
  induction h with
  | refl h => exact .refl h
  | step h ha hd ih => exact (Cn.step (.refl hd) (adj_symm ha) h.right).trans ih
theorem Cn.ids {t : GTopology} (hv : Vt t) {c : List Int} {a b : Int} (h : Cn t c a b) (ha : a ∈ ids t) : b ∈ ids t := by
  cases h with
  | refl h => exact ha
  | step _ hd _ => exact adj_ids hv hd
theorem Cn.stays {t : GTopology} {c : List Int} {S : Int → Prop} {a b : Int} (h : Cn t c a b) (ha : S a) (hs : ∀ x, S x → ∀ y, adjT t x y = true → S y ∨ y ∈ c) : S b := by
  induction h with
  | refl _ => exact ha
  | step _ hd hc ih => exact (hs _ ih _ hd).resolve_right hc
open Classical in
noncomputable def compL (t : GTopology) (c : List Int) (r : Int) : List Int := (ids t).filter fun x => decide (Cn t c r x)
theorem compL_mem {t : GTopology} (hv : Vt t) {c : List Int} {r x : Int} (hr : r ∈ ids t) : x ∈ compL t c r ↔ Cn t c r x := by
  unfold compL
  rw [List.mem_filter]
  simp only [decide_eq_true_eq]
  exact ⟨fun h => h.2, fun h => ⟨h.ids hv hr, h⟩⟩
theorem compL_lt {t : GTopology} (hv : Vt t) (c : List Int) (r : Int) : (compL t c r).Pairwise (· < ·) := (ids_lt hv).sublist List.filter_sublist
theorem ids_len {t : GTopology} (hv : Vt t) : (ids t).length ≤ 24 := by have := hv.nr; simpa [ids] using this
theorem compL_len {t : GTopology} (hv : Vt t) (c : List Int) (r : Int) : (compL t c r).length ≤ 24 := Nat.le_trans (List.length_filter_le _ _) (ids_len hv)

theorem dfs_ok {t : GTopology} (hv : Vt t) (c : List Int) : ∀ (n : Nat) (r : Int) (out : List Int), out.Nodup → (∀ x ∈ out, x ∈ ids t) → r ∈ ids t → (ids t).length + 1 ≤ n + out.length →
    Ok (m_topology_reached_1 n r out c t.Routers t.Links) (fun o => ∃ new, o = out ++ new ∧ o.Nodup ∧ (∀ x ∈ new, Cn t c r x) ∧ (r ∈ o ∨ r ∈ c) ∧ (∀ x ∈ new, ∀ y, adjT t x y = true → y ∈ o ∨ y ∈ c)) := by
  intro n
  induction n with
  | zero => intro r out h1 h2 _ h3; have := nodup_len h1 h2; omega
  | succ n ih =>
    intro r out h1 h2 hr h3
    unfold m_topology_reached_1
    simp only [con_int, bnd_s, jn]
    by_cases q1 : r ∈ out
    · simp only [q1, decide_true, cond_true]
      exact Ok.s ⟨[], by simp, h1, by simp, .inl q1, by simp⟩
    · simp only [q1, decide_false, cond_false]
      by_cases q2 : r ∈ c
      · simp only [q2, decide_true, cond_true]
        exact Ok.s ⟨[], by simp, h1, by simp, by simp [q2], by simp⟩
      · simp only [q2, decide_false, cond_false]
        have hol := nodup_len h1 h2
        have := ids_len hv
        rw [appO_ok (by simp; omega), bnd_s, show (GTopology.mk t.Routers t.Links) = t from rfl, top_near hv, bnd_s]
        refine Ok.forL (fun p m => ∃ new, m = (out ++ [r]) ++ new ∧ m.Nodup ∧ (∀ x ∈ new, Cn t c r x) ∧ (∀ x ∈ p, x ∈ m ∨ x ∈ c) ∧ (∀ x ∈ new, ∀ y, adjT t x y = true → y ∈ m ∨ y ∈ c)) ?_ _ ?_ ?_
        · rintro p e rest m Z hL ⟨new, hm, hnd, hcn, hp, had⟩ hZ
          have hadj : adjT t r e = true := (nearL_mem hv).1 (by rw [hL]; simp)
          have hsub : ∀ x ∈ m, x ∈ ids t := by
            intro x hx
            rw [hm] at hx
            simp only [List.mem_append, List.mem_cons, List.not_mem_nil, or_false] at hx
            rcases hx with (hx | rfl) | hx
            · exact h2 x hx
            · exact hr
            · exact (hcn x hx).ids hv hr
          refine Ok.bnd (ih e m hnd hsub (adj_ids hv hadj) (by rw [hm]; simp; omega)) ?_
          rintro o ⟨new2, ho, hond, hocn, hoe, hoad⟩
          refine hZ _ ⟨new ++ new2, by rw [ho, hm]; simp, hond, ?_, ?_, ?_⟩
          · intro x hx
            rcases List.mem_append.1 hx with hx | hx
            · exact hcn x hx
            · have := hocn x hx
              exact (Cn.step (.refl q2) hadj this.left).trans this
          · intro x hx
            rcases List.mem_append.1 hx with hx | hx
            · rcases hp x hx with h | h
              · exact .inl (by rw [ho]; simp [h])
              · exact .inr h
            · simp only [List.mem_cons, List.not_mem_nil, or_false] at hx; subst hx; exact hoe
          · intro x hx y hy
            rcases List.mem_append.1 hx with hx | hx
            · rcases had x hx y hy with h | h
              · exact .inl (by rw [ho]; simp [h])
              · exact .inr h
            · exact hoad x hx y hy
        · refine ⟨[], by simp, ?_, by simp, by simp, by simp⟩
          rw [List.nodup_append]
          refine ⟨h1, by simp, ?_⟩
          intro a ha b hb
          simp only [List.mem_cons, List.not_mem_nil, or_false] at hb
          subst hb
          exact fun e => q1 (e ▸ ha)
        · rintro m ⟨new, hm, hnd, hcn, hp, had⟩
          refine Ok.s ⟨r :: new, by rw [hm]; simp, hnd, ?_, .inl (by rw [hm]; simp), ?_⟩
          · intro x hx
            rcases List.mem_cons.1 hx with rfl | hx
            · exact .refl q2
            · exact hcn x hx
          · intro x hx y hy
            rcases List.mem_cons.1 hx with rfl | hx
            · exact hp y ((nearL_mem hv).2 hy)
            · exact had x hx y hy
theorem top_reached {t : GTopology} (hv : Vt t) {r : Int} (hr : r ∈ ids t) (c : List Int) : m_topology_reached t r c = some (compL t c r) := by
  have := ids_len hv
  obtain ⟨o, h1, new, ho, hnd, hcn, hro, had⟩ := dfs_ok hv c fuel r [] List.nodup_nil (by simp) hr (by unfold fuel; simp; omega)
  unfold m_topology_reached
  rw [h1, bnd_s]
  rw [List.nil_append] at ho
  subst ho
  have hlen := nodup_len hnd fun x hx => (hcn x hx).ids hv hr
  rw [chk_t (by simp; omega)]
  congr 1
  refine lt_unique (sortI_lt hnd) (compL_lt hv c r) fun x => ?_
  rw [sortI_mem, compL_mem hv hr]
  refine ⟨hcn x, fun h => ?_⟩
  have hro := hro.resolve_right h.left
  exact h.stays (S := fun x => x ∈ o) hro had

end Go.Proofs.Ytckhladakpjlgaa
