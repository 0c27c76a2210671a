/- Plain: the law of what is avoided. No condition. -/
import Derived.Test.YtflifgcoleknlaaPN
import Derived.Test.YtflifgcoleknlaaDL8
namespace Go.Proofs.Ytflifgcoleknlaa
set_option linter.all false
open Go
theorem plain_ShortestAvoids (t : List Int) : m_law06_ShortestAvoids t = some true := by
 unfold m_law06_ShortestAvoids
 refine Ok.eq (Ok.bnd (new_ok t) fun s hs => Ok.bnd (topol_valid hs (by decide)) fun p hp => ?_)
 obtain ⟨⟨hv, hn, _⟩, hp2⟩ := hp
 refine Ok.bnd (router_in hp2 (by omega)) fun r1 hr1 => Ok.bnd (router_in hr1.2 (by omega)) fun r2 hr2 => Ok.bnd (router_in hr2.2 (by omega)) fun r3 hr3 => ?_
 obtain ⟨a, t1⟩ := r1
 obtain ⟨b, t2⟩ := r2
 obtain ⟨c, t3⟩ := r3
 simp only at hr1 hr2 hr3 ⊢
 have ha := hr1.1
 have hb := hr2.1
 have hcc := hr3.1
 have hl : p.1.Routers.length ≤ 1000000 := by omega
 have hs8 : (ids p.1).length ≤ 8 := by
  have h8 : (ids p.1).length = p.1.Routers.length := by simp [ids]
  omega
 have hchk := vt_iff.2 hv
 -- through c, or not
 have thr : avoidsT p.1 a b c = true ↔ ∃ k, dT p.1 a b = some k ∧ ¬ Thr p.1 b c a := by
  unfold avoidsT
  cases h1 : dT p.1 a b with
  | none => simp
  | some k =>
   simp only [Option.isSome_some, Bool.true_and, Option.getD_some, Option.some.injEq, Bool.not_eq_true', exists_eq_left']
   constructor
   ·intro h
    rintro ⟨i, j, e1, e2, e3⟩
    rw [e1, e2] at h
    rw [h1] at e3; cases e3
    simp at h
   ·intro h
    cases e1 : dT p.1 a c with
    | none => rfl
    | some i =>
     cases e2 : dT p.1 c b with
     | none => rfl
     | some j =>
      simp only [Option.isSome_some, Bool.true_and, Option.getD_some]
      exact decide_eq_false fun e => h ⟨i, j, e1, e2, by rw [h1, e]⟩
 rw [top_Avoids6]
 simp only [bnd_s]
 refine Ok.cs (fun hh => ?_) fun hh => ?_
 ·have hno : avoidsT p.1 a b c = false := by
   refine Bool.eq_false_iff.2 fun h => ?_
   obtain ⟨k, hk, hT⟩ := thr.1 h
   simp only [Bool.or_eq_true, decide_eq_true_eq] at hh
   rcases hh with e | e
   ·rw [← e] at hT
    exact hT ⟨0, k, dT_self hv ha, hk, by rw [hk]; congr 1; omega⟩
   ·rw [← e] at hT
    exact hT ⟨k, 0, hk, dT_self hv hb, by rw [hk]; congr 1; omega⟩
  rw [hno, Bool.not_false, cond_true, awake6]; exact .s rfl
 ·simp only [Bool.or_eq_false_iff, decide_eq_false_iff_not] at hh
  obtain ⟨hac, hbc⟩ := hh
  have hwo : m_ref05_Without p.1 (GFailure.mk [] [c]) = some (woR p.1 c) := by
   rw [ref_without, withoutT, if_pos hchk]; rfl
  have hv2 := woR_valid hv c
  have hchk2 := vt_iff.2 hv2
  have ha2 : a ∈ ids (woR p.1 c) := woR_ids.2 ⟨ha, hac⟩
  have hb2 : b ∈ ids (woR p.1 c) := woR_ids.2 ⟨hb, hbc⟩
  have hl2 : (woR p.1 c).Routers.length ≤ 1000000 := by have := hv2.nr; omega
  rw [hwo, bnd_s, top_Cost6, bnd_s, top_Cost6, bnd_s]
  refine Ok.jn (fun v => v = avoidsT p.1 a b c) (fun v hvv => ?_) fun J hJ => ?_
  ·subst hvv
   rw [beq_self_eq_true, cond_true, awake6]; exact .s rfl
  ·cases h1 : dT p.1 a b with
   | none =>
    rw [costT_none h1]
    exact hJ false (Bool.eq_false_iff.2 fun h => by obtain ⟨k, hk, _⟩ := thr.1 h; rw [h1] at hk; cases hk).symm
   | some k =>
    rw [costT_some h1]
    simp only [cond_true]
    by_cases hT : Thr p.1 b c a
    ·have hf : avoidsT p.1 a b c = false := Bool.eq_false_iff.2 fun h => by obtain ⟨_, _, h⟩ := thr.1 h; exact h hT
     rw [hf] at hJ
     cases h2 : dT (woR p.1 c) a b with
     | none => rw [costT_none h2]; exact hJ false rfl
     | some k2 =>
      rw [costT_some h2]
      simp only [cond_true]
      refine Ok.cs (fun he => ?_) fun _ => hJ false rfl
      have he := of_decide_eq_true he
      subst he
      rw [top_Paths6 _ _ _ hl, bnd_s, top_Paths6 _ _ _ hl2, bnd_s, pathsT, if_pos ⟨hchk, ha, hb⟩, pathsT, if_pos ⟨hchk2, ha2, hb2⟩]
      have := (wo_fewer hv hs8 hbc _ a k (Nat.le_refl _) h1 h2).2 hT
      exact hJ _ (decide_eq_false (by omega))
    ·have ht : avoidsT p.1 a b c = true := thr.2 ⟨k, h1, hT⟩
     rw [ht] at hJ
     obtain ⟨g1, _, g3⟩ := wo_same hv hbc _ a k (Nat.le_refl _) h1 hac hT
     rw [costT_some g1]
     simp only [decide_true, cond_true]
     rw [top_Paths6 _ _ _ hl, bnd_s, top_Paths6 _ _ _ hl2, bnd_s, pathsT, if_pos ⟨hchk, ha, hb⟩, pathsT, if_pos ⟨hchk2, ha2, hb2⟩, g3]
     exact hJ _ (decide_eq_true rfl)
end Go.Proofs.Ytflifgcoleknlaa
