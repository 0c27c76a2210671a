/- Plain: the law adl. The argument is a byte. -/
import Derived.Test.YtpmifmdidfgpdaaGreatPN
import Derived.Test.YtpmifmdidfgpdaaGreatPA9
import Derived.Test.YtpmifmdidfgpdaaGreatDL4
namespace Go.Proofs.YtpmifmdidfgpdaaGreat
set_option linter.all false
open Go
set_option maxRecDepth 100000
def f0 : aB := ((mS).getD (aB.mk [] [] [], false)).1
theorem auH : mS = some (f0, true) := by kernel_rfl
theorem val0 : oN f0 = true := by kernel_rfl
theorem msg0 : f0.aj = [] := by kernel_rfl
theorem auI : (jl (gR f0) 1).length = 1 := by kernel_rfl
theorem aqp : gT f0 1 = 0 := by kernel_rfl
theorem idx2 : gT f0 2 = 1 := by kernel_rfl
def mg : br := br.mk 1 2 (aD.mk [])
def fM (k : Nat) : aB := aB.mk f0.Links f0.aG (List.replicate k mg)
theorem dbC0 : dbC (aD.mk []) = 0 := by kernel_rfl
theorem vfM {k : Nat} (hk : k ≤ 400) : Vf (fM k) := by
 have h := uF.1 val0
 refine ⟨h.t, by simpa [fM] using hk, h.n, fun m hm => ?_⟩
 have e : m = mg := List.eq_of_mem_replicate (show m ∈ List.replicate k mg from hm)
 subst e
 have h1 : gT (fM k) 1 = 0 := aqp
 have h2 : gT (fM k) 2 = 1 := idx2
 refine ⟨?_, ?_, by decide, jW.1 dbC0⟩
 ·show 0 ≤ gT (fM k) 1; omega
 ·show 0 ≤ gT (fM k) 2; omega
theorem afX {k : Nat} (hk : k ≤ 400) : ∃ g, lT (fM k) 1 = some (g, if k = 400 then 3 else 0) ∧ (k < 400 → g.aj.length = k + 1) := by
 have hf := vfM hk
 have hM : (fM k).aj.length = k := by simp [fM]
 have h1 : gT (fM k) 1 = 0 := aqp
 unfold lT
 rcases wR (fM k) 1 with ⟨h2, _⟩ | ⟨a, n, b, hL, h2, h3⟩
 ·omega
 ·have hb := afU hf hL
  rw [h3] at hb
  have hs := am3 hf hL (fM k).aj (by omega)
  rw [show aB.mk (fM k).Links (fM k).aG (fM k).aj = fM k from rfl] at hs
  have el : ((fM k).aj ++ aeZ (fM k) n).length = k + 1 := by
   have hn : (jl (gR (fM k)) 1).length = 1 := auI
   simp [aeZ, hM, h3, hn]
  rw [hb]
  simp only [els, aP, decide_true, Bool.not_true, cond_false, hs, el]
  by_cases hc : k = 400
  ·subst hc
   exact ⟨_, rfl, by omega⟩
  ·have e : decide ((400:Int) < ((k + 1 : Nat) : Int)) = false := by simp; omega
   rw [e, if_neg hc]
   exact ⟨_, rfl, fun _ => el⟩
theorem adC {k : Nat} (h0 : 0 < k) (hk : k ≤ 400) : ∃ g, fG (fM k) 0 = some (g, if k = 400 then 3 else 0) ∧ (k < 400 → g.aj.length = k + 1) := by
 have hf := vfM hk
 have hM : (fM k).aj.length = k := by simp [fM]
 unfold fG
 obtain ⟨j, rfl⟩ : ∃ j, k = j + 1 := ⟨k - 1, by omega⟩
 have hx : mg ∈ (fM (j + 1)).aj := by simp [fM]
 have e1 : elO (fM (j + 1)).aj 0 = some mg := by simp [fM, List.replicate_succ, elO]
 rw [sy hf (k := 0) ⟨by omega, by omega⟩]
 simp only [els, e1, aP, decide_true, Bool.not_true, cond_false, vT (hf.g mg hx).2.2.2.sm, hM]
 by_cases hc : j + 1 = 400
 ·rw [hc]
  exact ⟨_, rfl, by omega⟩
 ·have e : decide (((j + 1 : Nat) : Int) = (400:Int)) = false := by simp; omega
  rw [e, if_neg hc, cond_false, dJ (by simp [hM]; omega), aP]
  exact ⟨_, rfl, fun _ => by simp [hM]⟩
theorem x6 (n : Int) (hn : (Lit.int .u8 n).wf = true) : kj n = some true := by
 have hn : 0 ≤ n ∧ n ≤ 255 := by
  simp [Lit.wf, IntKind.min, IntKind.max, IntKind.bits, IntKind.signed] at hn; omega
 have h3 : 0 ≤ Int.tmod n 3 ∧ Int.tmod n 3 < 3 := ⟨Int.tmod_nonneg _ hn.1, Int.tmod_lt_of_pos _ (by omega)⟩
 refine Ok.eq ?_
 unfold kj
 rw [auH, aP]
 generalize Int.tmod n 3 = r at h3
 rw [cr (n := r) (by omega) (by omega), cr (by omega) (by omega)]
 refine Ok.whl (fun s : Int × List br => (0 ≤ s.1 ∧ s.1 ≤ 400 - r) ∧ s.2 = List.replicate (400 - r - s.1).toNat mg) (fun s => s.1.toNat) ⟨⟨by simp only; omega, by simp only; omega⟩, ?_⟩ (by simp only; omega) ?_
 ·rw [msg0]; simp
 rintro ⟨i, m⟩ Z ⟨hi, hm⟩ hZ
 simp only at hi hm
 refine Ok.cs (fun h => ?_) fun h => ?_
 ·have h : 0 < i := by simpa using h
  rw [dJ (by simp [hm]; omega), aP, cr (by omega) (by omega)]
  refine hZ _ ⟨⟨by simp only; omega, by simp only; omega⟩, ?_⟩ (by simp only; omega)
  rw [hm, show (400 - r - (i - 1)).toNat = (400 - r - i).toNat + 1 by omega, List.replicate_succ']
  rfl
 ·have h : ¬ 0 < i := by simpa using h
  have hi0 : i = 0 := by omega
  subst hi0
  generalize hk : (400 - r - 0).toNat = k at hm
  have hk1 : 0 < k ∧ k ≤ 400 := by omega
  subst hm
  rw [show aB.mk f0.Links f0.aG (List.replicate k mg) = fM k from rfl]
  obtain ⟨g1, s1, s2⟩ := afX hk1.2
  obtain ⟨g2, d1, d2⟩ := adC hk1.1 hk1.2
  rw [s1, aP, d1, aP, afS]
  by_cases hr : r = 0
  ·have hk4 : k = 400 := by omega
   simp only [hr, hk4, if_true, decide_true, cond_true, aP]
   exact Ok.s rfl
  ·have hk4 : k ≠ 400 := by omega
   have l1 := s2 (by omega)
   have l2 := d2 (by omega)
   have w : w64 ((List.replicate k mg).length + 1 : Int) = (k : Int) + 1 := by rw [List.length_replicate, cr (by omega) (by omega)]
   simp only [hr, hk4, if_false, decide_true, decide_false, cond_true, cond_false, aP, l1, l2, w]
   simp only [Int.natCast_add, Int.cast_ofNat_Int, decide_true, cond_true]
   exact Ok.s rfl
end Go.Proofs.YtpmifmdidfgpdaaGreat
