/- Plain: what the later wk tape bends. No condition but bR bw stand in each. -/
import Derived.Test.YtmfehenfoepkfaaPYI
namespace Go.Proofs.Ytmfehenfoepkfaa
set_option linter.all false
open Go
theorem aaM {α : Type} {l : List α} (h : l.length ≤ 1000000) : dV ([] : List α) l = some l := by
 rw [yL (by simp; omega)]; rfl
theorem uC {t : aC} {g : aj} (h : bP t) (hg : g.ay.length ≤ 1000 ∧ g.Links.length ≤ 1000) : Ok (gp t g) (fun p => (p.1.ay.length ≤ g.ay.length + 1 ∧ p.1.Links.length ≤ g.Links.length + 1) ∧ bP p.2) := by
 unfold gp
 rw [aaM (by omega), aL, aaM (by omega), aL]
 refine Ok.jn (fun sg : List Int × Int × List aN × List aV => (sg.2.2.1.length ≤ g.ay.length + 1 ∧ sg.2.2.2.length ≤ g.Links.length + 1) ∧ bP (aC.mk sg.1 sg.2.1)) (fun s hs => Ok.s hs) fun J hJ => ?_
 refine Ok.bnd (f_n h (by omega)) fun a ha => Ok.cs (fun _ => ?_) fun _ => Ok.cs (fun _ => ?_) fun _ => Ok.cs (fun _ => ?_) fun _ => ?_
 ·exact Ok.bnd (iD ha.2 (by simp) (by simp)) fun b hb => Ok.bnd (iR (by simp; omega)) fun m hm => hJ _ ⟨⟨by rw [hm.1]; simp, by simp⟩, hb.2⟩
 ·refine Ok.cs (fun hc => ?_) fun _ => hJ _ ⟨⟨by simp, by simp⟩, ha.2⟩
  have hc : 0 < (g.Links.length : Int) := by simpa using hc
  refine Ok.bnd (f_n ha.2 (by omega)) fun b hb => Ok.bnd (iD hb.2 (by simp) (by simp)) fun c hc2 => Ok.bnd (eY hb.1.1 (hb.1.2.1 (by omega))) fun e _ => ?_
  exact Ok.bnd (qe hb.1.1 (hb.1.2.1 (by omega))) fun m hm => hJ _ ⟨⟨by simp, by simp only [hm.2]; omega⟩, hc2.2⟩
 ·refine Ok.cs (fun hc => ?_) fun _ => hJ _ ⟨⟨by simp, by simp⟩, ha.2⟩
  have hc : 0 < (g.Links.length : Int) := by simpa using hc
  exact Ok.bnd (eY (by omega) hc) fun e _ => Ok.bnd (iR (by simp; omega)) fun m hm => hJ _ ⟨⟨by simp, by rw [hm.1]; simp⟩, ha.2⟩
 ·refine Ok.cs (fun hc => ?_) fun _ => hJ _ ⟨⟨by simp, by simp⟩, ha.2⟩
  have hc : 0 < (g.ay.length : Int) := by simpa using hc
  exact Ok.bnd (qf ⟨by omega, by omega, by omega⟩) fun m hm => hJ _ ⟨⟨by have := hm.2; simp only; omega, by simp⟩, ha.2⟩
end Go.Proofs.Ytmfehenfoepkfaa
