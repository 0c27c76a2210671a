/- The jt of dK of the program. No condition but bR bw stand in each. -/
import Derived.Test.YtmfehenfoepkfaaDL
import Derived.Test.YtmfehenfoepkfaaVJ
import Derived.Test.YtmfehenfoepkfaaVW
namespace Go.Proofs.Ytmfehenfoepkfaa
open Go
set_option maxRecDepth 100000
set_option linter.all false
theorem ya  {r : aj} (hm : rP = some r) : RO Try.prog 42 [] [] (.agg (k2 r)) := by
 refine aZ Try.func42 rfl rfl ?_
 unfold rP at hm
 refine qS [(0, .al 42000)] [(0, .ptr 42000 0)] [(42000, .cells 32 [.bf, .bf])] ?_
 refine qD [] [] [] [42000] [(42000, .cells 32 [.lst true (ml aH ([(aN.mk (1:Int) true), (aN.mk (2:Int) true)] : List aN)), .lst true (ml bu ([(aV.mk (1:Int) (2:Int) (1:Int) (1:Int) (0:Int))] : List aV))])] ?_
 cases hm
 exact A.ret qE
theorem eF  {r : Bool} (hm : dI = some r) : RO Try.prog 7 [] [] (.bool r) := by
 refine aZ Try.func7 rfl rfl ?_
 unfold dI at hm
 refine qS [] [] [] ?_
 obtain ⟨ak, h1, hm⟩ := aa hm
 obtain ⟨aF, h2, hm⟩ := aa hm
 refine qS [(0, hro (ya h1) ck42), (1, hro (mg h2) aeV), (5, .al 7001)] [(1, .ptr 7001 0), (2, i6 aF.2)] [(7001, .cells 36 (k5 aF.1))] ?_
 obtain ⟨aI, h3, hm⟩ := aa hm
 refine qDs [(5, hro (jA h3) ab3)] [] [(3, .int .u64 aI.1), (4, i6 aI.2)] ?_
 rcases aq hm with ⟨c1,hm⟩|⟨c1,hm⟩
 ·rcases aq hm with ⟨c2,hm⟩|⟨c2,hm⟩
  ·rcases aq hm with ⟨c3,hm⟩|⟨c3,hm⟩
   ·obtain ⟨e_1, h4, hm⟩ := aa hm
    rcases aq hm with ⟨c4,hm⟩|⟨c4,hm⟩
    ·refine qS [(2, hto (bE c1)), (6, hto (bE c2)), (9, hto (lnE af aF.1.List)), (12, hto (bE c3)), (15, hix (ix af h4)), (18, .sq false 64 (.agg (k3 e_1)) (.agg [i6 3, i6 2, i6 1, i6 1]) (ee e_1 (ai.mk (3:Int) (2:Int) (1:Int) (1:Int))) (fun x y w => zZ x y _ _ _ _ _ _ _ _ w)), (20, hto (bE c4))] [(0, .bool (decide (aI.1 = (6:Int))))] [] ?_
     cases hm
     exact A.ret qE
    refine qS [(2, hto (bE c1)), (6, hto (bE c2)), (9, hto (lnE af aF.1.List)), (12, hto (bE c3)), (15, hix (ix af h4)), (18, .sq false 64 (.agg (k3 e_1)) (.agg [i6 3, i6 2, i6 1, i6 1]) (ee e_1 (ai.mk (3:Int) (2:Int) (1:Int) (1:Int))) (fun x y w => zZ x y _ _ _ _ _ _ _ _ w)), (20, hto (bE c4))] [(0, .bool false)] [] ?_
    cases hm
    exact A.ret qE
   refine qS [(2, hto (bE c1)), (6, hto (bE c2)), (9, hto (lnE af aF.1.List)), (12, hto (bE c3))] [(0, .bool false)] [] ?_
   cases hm
   exact A.ret qE
  refine qS [(2, hto (bE c1)), (6, hto (bE c2))] [(0, .bool false)] [] ?_
  cases hm
  exact A.ret qE
 refine qS [(2, hto (bE c1))] [(0, .bool false)] [] ?_
 cases hm
 exact A.ret qE
theorem mh {sa0 : aC} {t : bB} {r : bB × aC} (hm : gd sa0 t = some r) : cv Try.prog 13 [(900000081, .cells 81 (k4 sa0))] [.ptr 900000081 0, .agg (k7 t)] (fun a σ' => a = .agg (k7 r.1) ∧ σ' = [(900000081, .cells 81 (k4 r.2))]) := by
 refine aZ Try.func13 rfl rfl ?_
 unfold gd at hm
 refine qS [(0, .al 13003), (1, .al 13004)] [(0, .ptr 900000081 0), (3, .ptr 13003 0), (4, .ptr 13004 0)] [(900000081, .cells 81 (k4 sa0)), (13003, .cells 25 (k7 t)), (13004, .cells 25 [i6 0, .bf])] ?_
 obtain ⟨l_1, h1, hm⟩ := aa hm
 refine qD [(2, .al 13009), (5, hap 13512 (ap aJ (bytes := 16) (by decide) h1)), (7, .al 13005)] [3] [(5, .ptr 13005 0)] [13003] [(13005, .cells 25 [i6 t.bL, .own 13512]), (13512, .slice 79 2 (ml aJ l_1) 0 false)] ?_
 refine A.seq ?_
 refine qDs [(2, hto (lnE aJ l_1))] [] [(17, .bool (decide ((l_1.length:Int) = (0:Int))))] ?_
 rcases aq hm with ⟨c1,hm⟩|⟨c1,hm⟩
 ·refine qT c1 ?_
  obtain ⟨ak, h2, hm⟩ := aa hm
  obtain ⟨aF, h3, hm⟩ := aa hm
  refine qD [(1, hdc [] (cN h2) xb), (3, hdc [] (cN h3) xb), (5, .al 13023)] [0, 17] [] [900000081, 13005, 13512] [(900000081, .cells 81 (k4 aF.2)), (13005, .cells 25 [i6 t.bL, .own 13023]), (13023, .slice 79 2 (ml aJ ([(bq.mk ak.1 aF.1)] : List bq)) 0 false)] ?_
  refine qD [] [5] [] [13004, 13005] [(13004, .cells 25 [i6 t.bL, .own 13023])] ?_
  refine A.ret ?_
  obtain rfl := some_inj hm
  exact A.fin W0 [.fz [13023]] rfl (by kernel_rfl)
 refine qF c1 ?_
 refine A.skip ?_
 show ah _ _ _ _ _
 obtain ⟨aI, h4, hm⟩ := aa hm
 obtain ⟨e_1, h5, hm⟩ := aa hm
 refine qD [(5, hto (lnE aJ l_1)), (6, hdc [] (aO h4) gv), (7, hix (ix aJ h5))] [17] [(6, .ptr 13512 (aI.1.toNat * 2))] [900000081] [(900000081, .cells 81 (k4 aI.2))] ?_
 obtain ⟨J1, hJ1, hm⟩ := bN hm
 refine A.J (J := J1) (r := r) (fun sg => match sg with | (m_1, m_2, m_3, m_4) => [(4, .ptr 13004 0), (5, .ptr 13005 0)]) (fun sg => match sg with | (m_1, m_2, m_3, m_4) => [(900000081, .cells 81 [lf aA m_1, i6 m_2]), (13004, .cells 25 [i6 0, .bf]), (13005, .cells 25 [i6 m_3, .own 701300501]), (701300501, .slice 79 2 (ml aJ m_4) 0 false)]) ?_ ?_
 ·obtain ⟨aU, h6, hm⟩ := aa hm
  refine qD [(1, hdc [] (aO h6) gv)] [] [(35, i6 aU.1)] [900000081] [(900000081, .cells 81 (k4 aU.2))] ?_
  refine A.block ?_
  refine qDs [] [] [(42, .bool (decide (aU.1 = (0:Int))))] ?_
  rcases aq hm with ⟨c2,hm⟩|⟨c2,hm⟩
  ·refine qT c2 ?_
   obtain ⟨aX, h7, hm⟩ := aa hm
   refine qG [(4, hlo 13512 1 (ix aJ h5)), (6, hdc [] (bF h7) mJ)] [0, 6, 35, 42] [] [900000081, 13005] [(900000081, .cells 81 (k4 aX.2)), (13005, .cells 25 [i6 aX.1, .own 13512])] ?_
   exact Exists.intro (aX.2.L, aX.2.At, aX.1, l_1) (And.intro hm (bp.go [.sw 13512 701300501] [] (by kernel_rfl)))
  refine qF c2 ?_
  refine qDs [] [42] [(52, .bool (decide (aU.1 = (1:Int))))] ?_
  rcases aq hm with ⟨c3,hm⟩|⟨c3,hm⟩
  ·refine qT c3 ?_
   obtain ⟨aS, h8, hm⟩ := aa hm
   obtain ⟨l_2, h9, hm⟩ := aa hm
   refine qG [(7, hlo 13512 0 (ix aJ h5)), (9, hdc [] (bF h8) mJ), (12, hso 13512 (st aJ (off := 1) (ca := [i6 aS.1]) h5 h9 rfl) (iK h5).1.1)] [0, 6, 35, 52] [] [900000081, 13512] [(900000081, .cells 81 (k4 aS.2)), (13512, .slice 79 2 (ml aJ l_2) 0 false)] ?_
   exact Exists.intro (aS.2.L, aS.2.At, t.bL, l_2) (And.intro hm (bp.go [.sw 13512 701300501] [] (by kernel_rfl)))
  refine qF c3 ?_
  refine qDs [] [52] [(66, .bool (decide (aU.1 = (2:Int))))] ?_
  rcases aq hm with ⟨c4,hm⟩|⟨c4,hm⟩
  ·refine qT c4 ?_
   obtain ⟨bh, h10, hm⟩ := aa hm
   obtain ⟨l_3, h11, hm⟩ := aa hm
   refine qG [(3, hdc [] (bF h10) mJ), (6, hso 13512 (st aJ (off := 0) (ca := [i6 bh.1]) h5 h11 rfl) (iK h5).1.1)] [0, 6, 35, 66] [] [900000081, 13512] [(900000081, .cells 81 (k4 bh.2)), (13512, .slice 79 2 (ml aJ l_3) 0 false)] ?_
   exact Exists.intro (bh.2.L, bh.2.At, t.bL, l_3) (And.intro hm (bp.go [.sw 13512 701300501] [] (by kernel_rfl)))
  refine qF c4 ?_
  refine qDs [] [0, 6, 35, 66] [(74, .bool (decide (aU.1 = (3:Int))))] ?_
  rcases aq hm with ⟨c5,hm⟩|⟨c5,hm⟩
  ·refine qT c5 ?_
   obtain ⟨e_2, h12, hm⟩ := aa hm
   obtain ⟨l_4, h13, hm⟩ := aa hm
   refine qG [(4, hix (ix aJ h12)), (5, hlo 13512 0 (ix aJ h12)), (7, hap 13583 (ap aJ (bytes := 16) (by decide) h13))] [74] [] [13005, 13512] [(13005, .cells 25 [i6 t.bL, .own 13583]), (13583, .slice 79 2 (ml aJ l_4) 0 false)] ?_
   exact Exists.intro (aU.2.L, aU.2.At, t.bL, l_4) (And.intro hm (bp.go [.sw 13583 701300501] [] (by kernel_rfl)))
  refine qF c5 ?_
  obtain ⟨l_5, h14, hm⟩ := aa hm
  obtain ⟨l_6, h15, hm⟩ := aa hm
  refine A.R W0 [.fz [13512]] [(0, .al 13036), (3, hsl (abP aJ h14)), (4, hap 13540 (ap aJ (bytes := 16) (by decide) h15))] [(4, .ptr 13004 0), (5, .ptr 13005 0)] [(900000081, .cells 81 (k4 aU.2)), (13004, .cells 25 [i6 0, .bf]), (13005, .cells 25 [i6 t.bL, .own 13540]), (13540, .slice 79 2 (ml aJ l_6) 0 false)] (by kernel_rfl) ?_
  exact Exists.intro (aU.2.L, aU.2.At, t.bL, l_6) (And.intro hm (bp.go [.sw 13540 701300501] [] (by kernel_rfl)))
 rintro ⟨m_1, m_2, m_3, m_4⟩ hm
 rw [hJ1] at hm
 refine qD [] [5] [] [13004, 13005] [(13004, .cells 25 [i6 m_3, .own 701300501])] ?_
 refine A.ret ?_
 obtain rfl := some_inj hm
 exact A.fin W0 [.fz [701300501]] rfl (by kernel_rfl)
theorem rQ {e : aB} {r : Bool} (hm : nT e = some r) : RO Try.prog 29 [] [.agg (k5 e)] (.bool r) := by
 refine aZ Try.func29 rfl rfl ?_
 unfold nT at hm
 refine qS [(0, .al 29001)] [(1, .ptr 29001 0)] [(29001, .cells 36 (k5 e))] ?_
 refine qS [(2, hto (lnE af e.List))] [(2, .bool (decide ((e.List.length:Int) ≤ (80:Int))))] [] ?_
 cases hm
 exact A.ret qE
end Go.Proofs.Ytmfehenfoepkfaa
