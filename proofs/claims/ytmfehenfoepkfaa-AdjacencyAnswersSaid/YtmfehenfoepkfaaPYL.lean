/- Plain: what the statements of the chapter on aaU bend. No condition but bR bw stand in each. -/
import Derived.Test.YtmfehenfoepkfaaPYK
import Derived.Test.YtmfehenfoepkfaaPYJ
import Derived.Test.YtmfehenfoepkfaaDL
import Derived.Test.YtmfehenfoepkfaaDLB
namespace Go.Proofs.Ytmfehenfoepkfaa
set_option linter.all false
open Go
theorem mZ : dI = some true := by kernel_rfl
theorem vE {t : aC} {x : bB} (h : bP t) (hl : x.Links.length ≤ 1000) : Ok (gd t x) (fun p => p.1.Links.length ≤ x.Links.length + 1 ∧ bP p.2) := by
 unfold gd
 rw [aaM (by omega), aL]
 refine Ok.cs (fun _ => ?_) fun hc => ?_
 ·exact Ok.bnd (pW h) fun a ha => Ok.bnd (pW ha.2) fun b hb => Ok.s ⟨by simp, hb.2⟩
 have hc : ¬ (x.Links.length : Int) = 0 := by simpa using hc
 refine Ok.bnd (f_n h (by omega)) fun a ha => ?_
 have ha1 := ha.1.2.1 (by omega)
 refine Ok.bnd (eY ha.1.1 ha1) fun e _ => ?_
 refine Ok.jn (fun sg : List Int × Int × Int × List bq => sg.2.2.2.length ≤ x.Links.length + 1 ∧ bP (aC.mk sg.1 sg.2.1)) (fun s hs => Ok.s hs) fun J hJ => ?_
 refine Ok.bnd (f_n ha.2 (by omega)) fun b hb => Ok.cs (fun _ => ?_) fun _ => Ok.cs (fun _ => ?_) fun _ => Ok.cs (fun _ => ?_) fun _ => Ok.cs (fun _ => ?_) fun _ => ?_
 ·exact Ok.bnd (iD hb.2 (by simp) (by simp)) fun c hc2 => hJ _ ⟨by simp, hc2.2⟩
 ·exact Ok.bnd (iD hb.2 (by simp) (by simp)) fun c hc2 => Ok.bnd (qe ha.1.1 ha1) fun m hm => hJ _ ⟨by simp only [hm.2]; omega, hc2.2⟩
 ·exact Ok.bnd (iD hb.2 (by simp) (by simp)) fun c hc2 => Ok.bnd (qe ha.1.1 ha1) fun m hm => hJ _ ⟨by simp only [hm.2]; omega, hc2.2⟩
 ·exact Ok.bnd (eY (by omega) (by omega)) fun e2 _ => Ok.bnd (iR (by simp; omega)) fun m hm => hJ _ ⟨by rw [hm.1]; simp, hb.2⟩
 ·exact Ok.bnd (qf ⟨by omega, by omega, by omega⟩) fun m hm => by
   rw [aaM (by have := hm.2; omega), aL]
   exact hJ _ ⟨by have := hm.2; simp only; omega, hb.2⟩
theorem wJ {t : aC} {x : aB} (h : bP t) (hl : x.List.length ≤ 1000) (hx : 0 ≤ x.Length ∧ x.Length ≤ 64) : Ok (kY t x) (fun p => p.1.List.length ≤ x.List.length + 1 ∧ bP p.2) := by
 unfold kY
 rw [aaM (by omega), aL]
 refine Ok.cs (fun hc => ?_) fun hc => ?_
 ·exact Ok.bnd (iD h (by simp) (by simp)) fun a ha => Ok.s ⟨by simp, ha.2⟩
 have hc : ¬ (x.List.length : Int) = 0 := by simpa using hc
 refine Ok.bnd (f_n h (by omega)) fun a ha => ?_
 have ha1 := ha.1.2.1 (by omega)
 refine Ok.bnd (eY ha.1.1 ha1) fun e _ => ?_
 refine Ok.jn (fun sg : List Int × Int × Int × List ai => sg.2.2.2.length ≤ x.List.length + 1 ∧ bP (aC.mk sg.1 sg.2.1)) (fun s hs => Ok.s hs) fun J hJ => ?_
 have st : ∀ (y : ai) (k : List ai → Option (aB × aC)), (∀ m, m.length ≤ x.List.length + 1 → Ok (k m) (fun p => p.1.List.length ≤ x.List.length + 1 ∧ bP p.2)) → Ok (bnd (lF x.List a.1 y) k) (fun p => p.1.List.length ≤ x.List.length + 1 ∧ bP p.2) := fun y k hk => Ok.bnd (qe ha.1.1 ha1) fun m hm => hk m (by omega)
 refine Ok.bnd (f_n ha.2 (by omega)) fun b hb => Ok.cs (fun _ => ?_) fun _ => Ok.cs (fun _ => ?_) fun _ => Ok.cs (fun _ => ?_) fun _ => Ok.cs (fun _ => ?_) fun _ => Ok.cs (fun _ => ?_) fun _ => Ok.cs (fun _ => ?_) fun _ => ?_
 ·exact Ok.bnd (iD hb.2 (by simp) (by simp)) fun c hc2 => st _ _ fun m hm => hJ _ ⟨hm, hc2.2⟩
 ·exact Ok.bnd (iD hb.2 (by simp) (by simp)) fun c hc2 => st _ _ fun m hm => hJ _ ⟨hm, hc2.2⟩
 ·exact Ok.bnd (pW hb.2) fun c hc2 => st _ _ fun m hm => hJ _ ⟨hm, hc2.2⟩
 ·exact Ok.bnd (iD hb.2 (by simp) (by simp)) fun c hc2 => st _ _ fun m hm => hJ _ ⟨hm, hc2.2⟩
 ·exact Ok.bnd (iD hb.2 (by simp) (by simp)) fun c hc2 => hJ _ ⟨by simp, hc2.2⟩
 ·exact Ok.bnd (eY (by omega) (by omega)) fun e2 _ => Ok.bnd (iR (by simp; omega)) fun m hm => hJ _ ⟨by rw [hm.1]; simp, hb.2⟩
 ·rw [dA (by omega) (by omega)]
  refine Ok.bnd (eY (by omega) (by omega)) fun e2 _ => Ok.bnd (eY (by omega) (by omega)) fun e3 _ => Ok.bnd (qe (by omega) (by omega)) fun m hm => Ok.bnd (eY (by omega) (by omega)) fun _ _ => Ok.bnd (qe (by omega) (by omega)) fun m2 hm2 => hJ _ ⟨by simp only; omega, hb.2⟩
end Go.Proofs.Ytmfehenfoepkfaa
