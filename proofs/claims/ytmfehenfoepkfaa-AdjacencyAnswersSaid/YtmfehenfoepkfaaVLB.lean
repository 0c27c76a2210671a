/- The jt of dK of the program. No condition but bR bw stand in each. -/
import Derived.Test.YtmfehenfoepkfaaDLB
import Derived.Test.YtmfehenfoepkfaaVW
namespace Go.Proofs.Ytmfehenfoepkfaa
open Go
set_option maxRecDepth 100000
set_option linter.all false
theorem sC {sa0 : aC} {e : aB} {r : aB × aC} (hm : kY sa0 e = some r) : cv Try.prog 20 [(900000081, .cells 81 (k4 sa0))] [.ptr 900000081 0, .agg (k5 e)] (fun a σ' => a = .agg (k5 r.1) ∧ σ' = [(900000081, .cells 81 (k4 r.2))]) := by
 refine aZ Try.func20 rfl rfl ?_
 unfold kY at hm
 refine qS [(0, .al 20003), (1, .al 20004)] [(0, .ptr 900000081 0), (3, .ptr 20003 0), (4, .ptr 20004 0)] [(900000081, .cells 81 (k4 sa0)), (20003, .cells 36 (k5 e)), (20004, .cells 36 [i6 0, .bf])] ?_
 obtain ⟨l_1, h1, hm⟩ := aa hm
 refine qD [(2, .al 20010), (5, hap 20513 (ap af (bytes := 32) (by decide) h1)), (7, .al 20005)] [3] [(5, .ptr 20005 0)] [20003] [(20005, .cells 36 [i6 e.Length, .own 20513]), (20513, .slice 64 4 (ml af l_1) 0 false)] ?_
 refine A.seq ?_
 refine qDs [(2, hto (lnE af l_1))] [] [(18, .bool (decide ((l_1.length:Int) = (0:Int))))] ?_
 rcases aq hm with ⟨c1,hm⟩|⟨c1,hm⟩
 ·refine qT c1 ?_
  obtain ⟨ak, h2, hm⟩ := aa hm
  refine qD [(2, hdc [] (bF h2) mJ)] [0, 18] [] [900000081, 20005] [(900000081, .cells 81 (k4 ak.2)), (20005, .cells 36 [i6 ak.1, .own 20513])] ?_
  refine qD [] [5] [] [20004, 20005] [(20004, .cells 36 [i6 ak.1, .own 20513])] ?_
  refine A.ret ?_
  obtain rfl := some_inj hm
  exact A.fin W0 [.fz [20513]] rfl (by kernel_rfl)
 refine qF c1 ?_
 refine A.skip ?_
 show ah _ _ _ _ _
 obtain ⟨aF, h3, hm⟩ := aa hm
 obtain ⟨e_1, h4, hm⟩ := aa hm
 refine qD [(5, hto (lnE af l_1)), (6, hdc [] (aO h3) gv), (7, hix (ix af h4))] [18] [(6, .ptr 20513 (aF.1.toNat * 4))] [900000081] [(900000081, .cells 81 (k4 aF.2))] ?_
 obtain ⟨J1, hJ1, hm⟩ := bN hm
 refine A.J (J := J1) (r := r) (fun sg => match sg with | (m_1, m_2, m_3, m_4) => [(4, .ptr 20004 0), (5, .ptr 20005 0)]) (fun sg => match sg with | (m_1, m_2, m_3, m_4) => [(900000081, .cells 81 [lf aA m_1, i6 m_2]), (20004, .cells 36 [i6 0, .bf]), (20005, .cells 36 [i6 m_3, .own 702000501]), (702000501, .slice 64 4 (ml af m_4) 0 false)]) ?_ ?_
 ·obtain ⟨aI, h5, hm⟩ := aa hm
  refine qD [(1, hdc [] (aO h5) gv)] [] [(33, i6 aI.1)] [900000081] [(900000081, .cells 81 (k4 aI.2))] ?_
  refine A.block ?_
  refine qDs [] [] [(56, .bool (decide (aI.1 = (0:Int))))] ?_
  rcases aq hm with ⟨c2,hm⟩|⟨c2,hm⟩
  ·refine qT c2 ?_
   obtain ⟨aU, h6, hm⟩ := aa hm
   obtain ⟨l_2, h7, hm⟩ := aa hm
   refine qG [(3, hdc [] (bF h6) mJ), (6, hso 20513 (st af (off := 0) (ca := [i6 aU.1]) h4 h7 rfl) (iK h4).1.1)] [0, 6, 33, 56] [] [900000081, 20513] [(900000081, .cells 81 (k4 aU.2)), (20513, .slice 64 4 (ml af l_2) 0 false)] ?_
   exact Exists.intro (aU.2.L, aU.2.At, e.Length, l_2) (And.intro hm (bp.go [.sw 20513 702000501] [] (by kernel_rfl)))
  refine qF c2 ?_
  refine qDs [] [56] [(64, .bool (decide (aI.1 = (1:Int))))] ?_
  rcases aq hm with ⟨c3,hm⟩|⟨c3,hm⟩
  ·refine qT c3 ?_
   obtain ⟨aX, h8, hm⟩ := aa hm
   obtain ⟨l_3, h9, hm⟩ := aa hm
   refine qG [(3, hdc [] (bF h8) mJ), (6, hso 20513 (st af (off := 1) (ca := [i6 aX.1]) h4 h9 rfl) (iK h4).1.1)] [0, 6, 33, 64] [] [900000081, 20513] [(900000081, .cells 81 (k4 aX.2)), (20513, .slice 64 4 (ml af l_3) 0 false)] ?_
   exact Exists.intro (aX.2.L, aX.2.At, e.Length, l_3) (And.intro hm (bp.go [.sw 20513 702000501] [] (by kernel_rfl)))
  refine qF c3 ?_
  refine qDs [] [64] [(72, .bool (decide (aI.1 = (2:Int))))] ?_
  rcases aq hm with ⟨c4,hm⟩|⟨c4,hm⟩
  ·refine qT c4 ?_
   obtain ⟨aS, h10, hm⟩ := aa hm
   obtain ⟨l_4, h11, hm⟩ := aa hm
   refine qG [(2, hdc [] (cN h10) xb), (5, hso 20513 (st af (off := 2) (ca := [i6 aS.1]) h4 h11 rfl) (iK h4).1.1)] [0, 6, 33, 72] [] [900000081, 20513] [(900000081, .cells 81 (k4 aS.2)), (20513, .slice 64 4 (ml af l_4) 0 false)] ?_
   exact Exists.intro (aS.2.L, aS.2.At, e.Length, l_4) (And.intro hm (bp.go [.sw 20513 702000501] [] (by kernel_rfl)))
  refine qF c4 ?_
  refine qDs [] [72] [(79, .bool (decide (aI.1 = (3:Int))))] ?_
  rcases aq hm with ⟨c5,hm⟩|⟨c5,hm⟩
  ·refine qT c5 ?_
   obtain ⟨bh, h12, hm⟩ := aa hm
   obtain ⟨l_5, h13, hm⟩ := aa hm
   refine qG [(5, hlo 20513 1 (ix af h4)), (7, hdc [] (bF h12) mJ), (10, hso 20513 (st af (off := 3) (ca := [i6 bh.1]) h4 h13 rfl) (iK h4).1.1)] [0, 6, 33, 79] [] [900000081, 20513] [(900000081, .cells 81 (k4 bh.2)), (20513, .slice 64 4 (ml af l_5) 0 false)] ?_
   exact Exists.intro (bh.2.L, bh.2.At, e.Length, l_5) (And.intro hm (bp.go [.sw 20513 702000501] [] (by kernel_rfl)))
  refine qF c5 ?_
  refine qDs [] [6, 79] [(91, .bool (decide (aI.1 = (4:Int))))] ?_
  rcases aq hm with ⟨c6,hm⟩|⟨c6,hm⟩
  ·refine qT c6 ?_
   obtain ⟨cC, h14, hm⟩ := aa hm
   refine qG [(2, hdc [] (bF h14) mJ)] [0, 33, 91] [] [900000081, 20005] [(900000081, .cells 81 (k4 cC.2)), (20005, .cells 36 [i6 cC.1, .own 20513])] ?_
   exact Exists.intro (cC.2.L, cC.2.At, cC.1, l_1) (And.intro hm (bp.go [.sw 20513 702000501] [] (by kernel_rfl)))
  refine qF c6 ?_
  refine qDs [] [0, 33, 91] [(97, .bool (decide (aI.1 = (5:Int))))] ?_
  rcases aq hm with ⟨c7,hm⟩|⟨c7,hm⟩
  ·refine qT c7 ?_
   obtain ⟨e_2, h15, hm⟩ := aa hm
   refine qD [(2, hix (ix af h15)), (3, hlo 20513 0 (ix af h15)), (4, .al 20007)] [97] [(7, .ptr 20007 0)] [] [(20007, .cells 64 (k3 e_2))] ?_
   refine qD [] [] [] [20007] [(20007, .cells 64 [i6 (w64 (e.Length - (1:Int))), i6 e_2.aT, i6 e_2.Kind, i6 e_2.To])] ?_
   obtain ⟨l_6, h16, hm⟩ := aa hm
   refine qG [(4, hap 20611 (ap af (bytes := 32) (by decide) h16))] [7] [] [20005, 20513, 20007] [(20005, .cells 36 [i6 e.Length, .own 20611]), (20611, .slice 64 4 (ml af l_6) 0 false)] ?_
   exact Exists.intro (aI.2.L, aI.2.At, e.Length, l_6) (And.intro hm (bp.go [.sw 20611 702000501] [] (by kernel_rfl)))
  refine qF c7 ?_
  refine A.weak (bp.hdr (d := 20513) (e := 530020001) (i := 1) (t := 5) l_1.length rfl (gh _ _) rfl rfl rfl rfl rfl rfl rfl rfl) ?_
  obtain ⟨e_3, h17, hm⟩ := aa hm
  obtain ⟨e_4, h18, hm⟩ := aa hm
  obtain ⟨l_7, h19, hm⟩ := aa hm
  obtain ⟨e_5, h20, hm⟩ := aa hm
  obtain ⟨l_8, h21, hm⟩ := aa hm
  refine qR [(6, hlh 530020001 abA), (12, hlh 530020001 abA), (14, hix (ix af h17)), (15, hlo 20513 0 (ix af h17)), (18, hix (ix af h18)), (19, hlo 20513 0 (ix af h18)), (20, hix (ix af h18)), (21, hso 20513 (st af (off := 0) (ca := (k3 e_3)) h18 h19 rfl) (iK h18).1.1), (22, hix (ix af h20)), (23, hso 20513 (st af (off := 0) (ca := (k3 e_4)) h20 h21 rfl) (iK h20).1.1)] [(4, .ptr 20004 0), (5, .ptr 20005 0)] [(900000081, .cells 81 (k4 aI.2)), (20004, .cells 36 [i6 0, .bf]), (20005, .cells 36 [i6 e.Length, .own 20513]), (20513, .slice 64 4 (ml af l_8) 0 false)] ?_
  exact Exists.intro (aI.2.L, aI.2.At, e.Length, l_8) (And.intro hm (bp.go [.sw 20513 702000501] [] (by kernel_rfl)))
 rintro ⟨m_1, m_2, m_3, m_4⟩ hm
 rw [hJ1] at hm
 refine qD [] [5] [] [20004, 20005] [(20004, .cells 36 [i6 m_3, .own 702000501])] ?_
 refine A.ret ?_
 obtain rfl := some_inj hm
 exact A.fin W0 [.fz [702000501]] rfl (by kernel_rfl)
end Go.Proofs.Ytmfehenfoepkfaa
