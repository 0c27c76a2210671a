/- Plain: the law of the next routers. No condition. -/
import Derived.Test.YtflifgcoleknlaaPN
import Derived.Test.YtflifgcoleknlaaDL6
namespace Go.Proofs.Ytflifgcoleknlaa
set_option linter.all false
open Go
theorem plain_ShortestNexts (t : List Int) : m_law06_ShortestNexts t = some true := by
 unfold m_law06_ShortestNexts
 refine Ok.eq (Ok.bnd (new_ok t) fun s hs => Ok.bnd (topol_valid hs (by decide)) fun p hp => ?_)
 obtain ⟨⟨hv, hn, _⟩, hp2⟩ := hp
 refine Ok.bnd (router_in hp2 (by omega)) fun r1 hr1 => Ok.bnd (router_in hr1.2 (by omega)) fun r2 hr2 => ?_
 obtain ⟨a, t1⟩ := r1
 obtain ⟨b, t2⟩ := r2
 simp only at hr1 hr2 ⊢
 have ha := hr1.1
 have hb := hr2.1
 rw [top_Cost6, bnd_s, top_Next6, bnd_s, ref_near hv, bnd_s]
 refine Ok.forL (L := nearL p.1 a) (fun _ _ => True) (fun q y r u Z hL _ hZ => ?_) () trivial fun _ _ => ?_
 ·have hy : y ∈ nearL p.1 a := by rw [hL]; simp
  have hadj := (nearL_mem hv).1 hy
  have hprice := price_pos hv hadj
  have hlk : lkC p.1 a y = some (priceT p.1 a y).1 := lkC_some.2 ⟨hadj, rfl⟩
  rw [ref_price, bnd_s, top_Cost6, bnd_s, has_int]
  have hmem : decide (y ∈ nextT p.1 b a) = onB p.1 b a y := by
   unfold nextT
   rw [Bool.eq_iff_iff, decide_eq_true_eq, List.mem_filter]
   exact ⟨fun h => h.2, fun h => ⟨hy, h⟩⟩
  rw [hmem]
  refine Ok.jn (fun v => v = false) (fun v hvv => ?_) fun J hJ => ?_
  ·subst hvv
   rw [cond_false]
   refine Ok.jn (fun v => v = false) (fun v hvv => ?_) fun J2 hJ2 => ?_
   ·subst hvv; exact hZ () trivial
   ·rw [bnd_s]
    refine Ok.cs (fun hc => ?_) fun _ => hJ2 false rfl
    rw [top_Avoids6, bnd_s]
    refine hJ2 _ ?_
    -- the way on does not lead back
    unfold onB at hc
    split at hc
    ·rename_i all c e1 e2
     have hc := of_decide_eq_true hc
     unfold avoidsT
     rw [e2, e1]
     simp only [Option.isSome_some, Bool.true_and, Bool.and_true, Option.getD_some, Bool.not_not]
     cases h3 : dT p.1 y a with
     | none => rfl
     | some i =>
      have := dT_small h3
      simp only [Option.isSome_some, Bool.true_and, Option.getD_some]
      exact decide_eq_false (by omega)
    ·cases hc
  ·simp only [bnd_s]
   cases e1 : dT p.1 a b with
   | none => rw [costT_none e1, show onB p.1 b a y = false by simp [onB, e1]]; exact hJ _ rfl
   | some all =>
    cases e2 : dT p.1 y b with
    | none => rw [costT_none e2, costT_some e1, show onB p.1 b a y = false by simp [onB, e1, e2]]; exact hJ _ rfl
    | some c =>
     have h1 := dT_small e1
     have h2 := dT_small e2
     rw [costT_some e1, costT_some e2, show onB p.1 b a y = decide ((priceT p.1 a y).1 + c = all) by simp [onB, e1, e2]]
     simp only [cond_true]
     by_cases hab : a = b
     ·rw [decide_eq_true hab, Bool.not_true, cond_false]
      refine hJ _ ?_
      subst hab
      rw [dT_self hv ha] at e1; cases e1
      rw [decide_eq_false (by omega)]; rfl
     ·rw [decide_eq_false hab, Bool.not_false, cond_true]
      refine hJ _ ?_
      have hw : w64 ((priceT p.1 a y).1 + c) = (priceT p.1 a y).1 + c := w64_sm (by omega) (by omega)
      simp only [hw, beq_self_eq_true, Bool.not_true]
 ·have : (nextT p.1 b a).length ≤ (nearL p.1 a).length := List.length_filter_le _ _
  rw [decide_eq_true (by omega), cond_true, awake6]; exact .s rfl
end Go.Proofs.Ytflifgcoleknlaa
