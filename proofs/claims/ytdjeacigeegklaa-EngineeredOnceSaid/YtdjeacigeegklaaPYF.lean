/- Plain: vR, lists, trees aY the later vS tape makes. No condition but bL aY stand in each. -/
import Derived.Test.YtdjeacigeegklaaPYE
namespace Go.Proofs.Ytdjeacigeegklaa
set_option linter.all false
open Go
/-- one of the vR -/
theorem pF {t : aQ} {g : aa} {γ : Type} {Q : γ → Prop} {k : Int × aQ → aP → Option γ} (h : dB t) (hg : 1 ≤ g.aC.length ∧ g.aC.length ≤ 1000) (hk : ∀ p r, dB p.2 → r ∈ g.aC → r.ID ∈ ids g → Ok (k p r) Q) :
  Ok (bnd (bn t (g.aC.length : Int)) fun p => bnd (elO g.aC p.1) fun r => k p r) Q :=
 Ok.bnd (f_n h (by omega)) fun p hp => Ok.bnd (mq hp.1.1 (hp.1.2.1 (by omega))) fun r hr => hk p r hp.2 hr.1 (List.mem_map.2 ⟨r, hr.1, rfl⟩)
theorem vT {g : aa} (hv : Vt g) {x : Int} (h : x ∈ ids g) : 1 ≤ x ∧ x ≤ 99 := by
 obtain ⟨r, hr, rfl⟩ := List.mem_map.1 h
 exact hv.idr r hr
end Go.Proofs.Ytdjeacigeegklaa
