/- Plain: the law TopologyLimits. A condition: its argument is a number of eight bits without a sign. -/
import Derived.Test.YtckhladakpjlgaaPL5
import Derived.Test.YtckhladakpjlgaaDL2
namespace Go.Proofs.Ytckhladakpjlgaa
set_option linter.all false
open Go
set_option maxRecDepth 100000

def limP : List (Int × Int) := [(1, 2), (1, 3), (1, 4), (1, 5), (1, 6), (1, 7), (1, 8), (1, 9), (1, 10), (1, 11), (1, 12), (1, 13), (1, 14), (1, 15), (1, 16), (1, 17), (1, 18), (1, 19), (1, 20), (1, 21), (1, 22), (1, 23), (1, 24), (2, 3), (2, 4), (2, 5), (2, 6), (2, 7), (2, 8), (2, 9), (2, 10), (2, 11), (2, 12), (2, 13), (2, 14), (2, 15), (2, 16), (2, 17), (2, 18), (2, 19), (2, 20), (2, 21), (2, 22), (2, 23), (2, 24), (3, 4), (3, 5), (3, 6), (3, 7), (3, 8), (3, 9), (3, 10), (3, 11), (3, 12), (3, 13), (3, 14), (3, 15), (3, 16), (3, 17), (3, 18)]
def limR : List GRouter := [GRouter.mk 1 false, GRouter.mk 2 false, GRouter.mk 3 false, GRouter.mk 4 false, GRouter.mk 5 false, GRouter.mk 6 false, GRouter.mk 7 false, GRouter.mk 8 false, GRouter.mk 9 false, GRouter.mk 10 false, GRouter.mk 11 false, GRouter.mk 12 false, GRouter.mk 13 false, GRouter.mk 14 false, GRouter.mk 15 false, GRouter.mk 16 false, GRouter.mk 17 false, GRouter.mk 18 false, GRouter.mk 19 false, GRouter.mk 20 false, GRouter.mk 21 false, GRouter.mk 22 false, GRouter.mk 23 false, GRouter.mk 24 false]
def limL (k : Int) : List GLink := limP.map fun p => GLink.mk p.1 p.2 k 1000 1000
def limT (k : Int) : GTopology := GTopology.mk limR (limL k)
theorem adj_map {α γ : Type} (f : α → γ) (p : γ → γ → Bool) : ∀ l : List α, adjB p (l.map f) = adjB (fun a b => p (f a) (f b)) l
  | [] => rfl
  | [x] => rfl
  | a :: b :: r => by simp only [List.map_cons, adjB]; rw [← List.map_cons, adj_map f p (b :: r)]
theorem lim_chk {k : Int} (h : 1 ≤ k ∧ k ≤ 1000) : chkT (limT k) = 0 := by
  have hk : costB k = true := by simp [costB]; omega
  have e1 : kC (limT k) = false := by
    have : (limT k).Links = limP.map fun p => GLink.mk p.1 p.2 k 1000 1000 := rfl
    unfold kC; rw [this, List.any_map, List.any_eq_false]
    intro p _
    simp only [Function.comp, badL, hk]
    intro h; cases (show false = true from h)
  have e2 : kD (limT k) = limP.any fun p => !hasB (limT 0) p.1 || !hasB (limT 0) p.2 := by
    have : (limT k).Links = limP.map fun p => GLink.mk p.1 p.2 k 1000 1000 := rfl
    unfold kD; rw [this, List.any_map]; rfl
  have e3 : kE (limT k) = limP.any fun p => decide (p.2 ≤ p.1) := by
    have : (limT k).Links = limP.map fun p => GLink.mk p.1 p.2 k 1000 1000 := rfl
    unfold kE; rw [this, List.any_map]; rfl
  have e4 : kF (limT k) = adjB (fun a b : Int × Int => decide (a.1 < b.1) || (decide (a.1 = b.1) && decide (a.2 < b.2))) limP := by
    have : (limT k).Links = limP.map fun p => GLink.mk p.1 p.2 k 1000 1000 := rfl
    unfold kF; rw [this, adj_map]; rfl
  have d2 : (limP.any fun p => !hasB (limT 0) p.1 || !hasB (limT 0) p.2) = false := by kernel_rfl
  have d3 : (limP.any fun p => decide (p.2 ≤ p.1)) = false := by kernel_rfl
  have d4 : adjB (fun a b : Int × Int => decide (a.1 < b.1) || (decide (a.1 = b.1) && decide (a.2 < b.2))) limP = true := by kernel_rfl
  have d5 : kA (limT k) = false := by kernel_rfl
  have d6 : kB (limT k) = true := by kernel_rfl
  have d7 : (decide (24 < ((limT k).Routers.length : Int)) || decide (60 < ((limT k).Links.length : Int))) = false := by kernel_rfl
  unfold chkT
  rw [d7, d5, d6, e1, e2, d2, e3, d3, e4, d4]; rfl
theorem lim_there {k : Int} (h : 1 ≤ k ∧ k ≤ 1000) (c : GChange) : thereB (limT k) c = limP.any fun p => decide (p.1 = (normC c).A) && decide (p.2 = (normC c).B) := by
  rw [Bool.eq_iff_iff, there_iff (vt_iff.1 (lim_chk h))]
  simp only [List.any_eq_true, Bool.and_eq_true, decide_eq_true_eq]
  constructor
  · rintro ⟨l, hl, e1, e2⟩
    obtain ⟨p, hp, rfl⟩ := List.mem_map.1 hl
    exact ⟨p, hp, e1, e2⟩
  · rintro ⟨p, hp, e1, e2⟩
    exact ⟨_, List.mem_map.2 ⟨p, hp, rfl⟩, e1, e2⟩
theorem lim_loops (n : Int) : m_law05_TopologyLimits n =
    bnd (m_topology_Apply (limT (w64 ((1:Int) + (w64 n)))) (GChange.mk 24 23 1 1)) fun vx_1 => bnd (m_topology_Apply (limT (w64 ((1:Int) + (w64 n)))) (GChange.mk 2 1 5 6)) fun vx_2 => bnd (m_topology_Check (limT (w64 ((1:Int) + (w64 n))))) fun vx_3 => (bif decide (vx_3 = (0:Int)) then bnd (m_topology_Check (GTopology.mk (limR ++ [GRouter.mk 99 false]) (limL (w64 ((1:Int) + (w64 n)))))) fun vx_4 => (bif decide (vx_4 = (3:Int)) then (bif decide (vx_1.2 = (3:Int)) then (bif decide (vx_2.2 = (0:Int)) then (bif decide ((vx_2.1.Links.length:Int) = (60:Int)) then bnd (elO vx_2.1.Links (0:Int)) fun (e_1 : GLink) => (bif eqGLink e_1 (GLink.mk (1:Int) (2:Int) (6:Int) (5:Int) (1000:Int)) then bnd (m_law05_awake) fun (vx_5 : Bool) => some vx_5 else some false) else some false) else some false) else some false) else some false) else some false) := by
  kernel_rfl
theorem plain_TopologyLimits (n : Int) (hn : (Lit.int .u8 n).wf = true) : m_law05_TopologyLimits n = some true := by
  have hr : 0 ≤ n ∧ n ≤ 255 := by
    simp [Lit.wf, IntKind.min, IntKind.max, IntKind.bits, IntKind.signed] at hn
    omega
  rw [lim_loops]
  have ek : w64 ((1:Int) + (w64 n)) = 1 + n := by rw [w64_id (n := n) (by omega) (by omega), w64_id (by omega) (by omega)]
  rw [ek]
  have hk : 1 ≤ 1 + n ∧ 1 + n ≤ 1000 := by omega
  generalize 1 + n = k at hk
  have hc := lim_chk hk
  have hv := vt_iff.1 hc
  have hl : (limT k).Links.length = 60 := by kernel_rfl
  have hl2 : (limT k).Routers.length = 24 := by kernel_rfl
  rw [top_Apply _ _ (by omega), bnd_s, top_Apply _ _ (by omega), bnd_s, top_check, bnd_s, top_check, bnd_s, hc, awake5]
  have h3 : chkT (GTopology.mk (limR ++ [GRouter.mk 99 false]) (limL k)) = 3 := by kernel_rfl
  have hA : ∀ r, hasB (limT k) r = hasB (limT 0) r := fun _ => rfl
  have t1 : thereB (limT k) (GChange.mk 24 23 1 1) = false := by rw [lim_there hk]; kernel_rfl
  have t2 : thereB (limT k) (GChange.mk 2 1 5 6) = true := by rw [lim_there hk]; kernel_rfl
  have b1 : hasB (limT 0) 24 = true := by kernel_rfl
  have b2 : hasB (limT 0) 23 = true := by kernel_rfl
  have b3 : hasB (limT 0) 2 = true := by kernel_rfl
  have b4 : hasB (limT 0) 1 = true := by kernel_rfl
  have a1 : (applyT (limT k) (GChange.mk 24 23 1 1)).2 = 3 := by
    have : errC (limT k) (GChange.mk 24 23 1 1) = 3 := by
      simp only [errC, hc, hA, b1, b2, t1, hl]; decide
    unfold applyT; rw [this]; rfl
  have e2 : errC (limT k) (GChange.mk 2 1 5 6) = 0 := by
    simp only [errC, hc, hA, b3, b4, t2, hl]; decide
  have n2 : normC (GChange.mk 2 1 5 6) = GLink.mk 1 2 6 5 0 := by kernel_rfl
  have at0 : atN (limT k) (GChange.mk 2 1 5 6) = 0 := by
    apply Classical.byContradiction
    intro hne
    have hp := (place_c hv (GChange.mk 2 1 5 6)).1 (GLink.mk 1 2 k 1000 1000) (by
      obtain ⟨m, hm⟩ := Nat.exists_eq_succ_of_ne_zero hne
      rw [hm]
      exact List.mem_cons_self)
    rw [n2] at hp
    simp [ltL] at hp
  have a2 : applyT (limT k) (GChange.mk 2 1 5 6) = (GTopology.mk limR (GLink.mk 1 2 6 5 1000 :: (limL k).drop 1), 0) := by
    unfold applyT
    rw [e2]
    show (bif goneC (GChange.mk 2 1 5 6) then _ else (GTopology.mk limR (newLs (limT k) (GChange.mk 2 1 5 6)), (0:Int))) = _
    unfold newLs
    rw [t2, at0, n2]
    rfl
  rw [a1, a2, h3]
  have hd : ((GLink.mk 1 2 6 5 1000 :: (limL k).drop 1).length : Int) = 60 := by kernel_rfl
  simp only [hd, decide_true, cond_true]
  rfl
end Go.Proofs.Ytckhladakpjlgaa
