/- The eM of ct of the program. No condition but bU bB stand in each. -/
import Derived.Test.YtpmifmdidfgpdaaGreatDL4
import Derived.Test.YtpmifmdidfgpdaaGreatVQ
import Derived.Test.YtpmifmdidfgpdaaGreatVL
namespace Go.Proofs.YtpmifmdidfgpdaaGreat
open Go
set_option maxRecDepth 100000
set_option linter.all false
theorem uI {n : Int} {r : Bool} (hm : kj n = some r) : RO Tryz.prog 6 [] [.int .u8 n] (.bool r) := by
 refine aR Tryz.func6 rfl rfl ?_
 unfold kj at hm
 refine qS [] [(0, .int .u8 n)] [] ?_
 obtain ⟨af, h1, hm⟩ := aa hm
 refine qD [(0, hdc [500003400, 500003401] (uV h1) apy), (4, .al 6003)] [] [(3, .ptr 6003 0), (4, .bool af.2)] [] [(500003400, .slice 81 5 (ml aN af.1.aG) 0 false), (500003401, .slice 62 3 (ml aF af.1.aj) 0 false), (6003, .cells 27 [lf aA af.1.Links, .own 500003400, .own 500003401])] ?_
 refine A.seq ?_
 refine qDs [(1, .qr (3:Int) (by decide))] [] [(5, i6 (w64 ((400:Int) - (w64 (Int.tmod n (3:Int))))))] ?_
 refine A.block ?_
 obtain ⟨F1, n1, hF1, hm⟩ := fZ hm
 refine A.lpW (F := F1) hm (fun sg => match sg with | (i_1, m_1) => [(0, .int .u8 n), (3, .ptr 6003 0), (4, .bool af.2), (5, i6 i_1)]) (fun sg => match sg with | (i_1, m_1) => [(500003400, .slice 81 5 (ml aN af.1.aG) 0 false), (6003, .cells 27 [lf aA af.1.Links, .own 500003400, .own 700600302]), (700600302, .slice 62 3 (ml aF m_1) 0 false)]) ?_ ?_
 ·exact bA.go [.sw 500003401 700600302] [] (by kernel_rfl)
 rintro Z1 ⟨i_1, m_1⟩ hm
 rw [hF1] at hm
 refine A.seq ?_
 refine qDs [] [] [(19, .bool (decide ((0:Int) < i_1)))] ?_
 rcases ah hm with ⟨c1,hm⟩|⟨c1,hm⟩
 ·refine qT c1 ?_
  refine A.skip ?_
  show ai _ _ _ _ _
  refine A.seq ?_
  refine A.block ?_
  obtain ⟨l_1, h2, hm⟩ := aa hm
  refine qG [(4, hap 6526 (ap aF (bytes := 40) (by decide) h2))] [19] [] [6003, 700600302] [(6003, .cells 27 [lf aA af.1.Links, .own 500003400, .own 6526]), (6526, .slice 62 3 (ml aF l_1) 0 false)] ?_
  show ai _ _ _ _ _
  refine qGs [] [5] [(5, i6 (w64 (i_1 - (1:Int))))] ?_
  exact Exists.intro (w64 (i_1 - (1:Int)), l_1) (And.intro hm (bA.go [.sw 6526 700600302] [] (by kernel_rfl)))
 refine qF c1 ?_
 refine A.exit ?_
 show ai _ _ _ _ _
 obtain ⟨ay, h3, hm⟩ := aa hm
 refine A.RS W0 [.fz [500003400, 700600302]] [(1, hro (xO h3) ck32), (5, .al 6006)] [(0, .int .u8 n), (3, .ptr 6003 0), (4, .bool af.2), (6, .ptr 6006 0), (7, i6 ay.2)] [(500003400, .slice 81 5 (ml aN af.1.aG) (ml aN af.1.aG).length true), (6003, .cells 27 [lf aA af.1.Links, .own 500003400, .own 700600302]), (700600302, .slice 62 3 (ml aF m_1) (ml aF m_1).length true), (6006, .cells 27 (k11 ay.1))] (by kernel_rfl) ?_
 obtain ⟨aJ, h4, hm⟩ := aa hm
 refine qS [(1, hro (rE h4) apz), (5, .al 6008)] [(0, .int .u8 n), (3, .ptr 6003 0), (4, .bool af.2), (6, .ptr 6006 0), (7, i6 ay.2), (8, .ptr 6008 0), (9, i6 aJ.2)] [(500003400, .slice 81 5 (ml aN af.1.aG) (ml aN af.1.aG).length true), (6003, .cells 27 [lf aA af.1.Links, .own 500003400, .own 700600302]), (700600302, .slice 62 3 (ml aF m_1) (ml aF m_1).length true), (6006, .cells 27 (k11 ay.1)), (6008, .cells 27 (k11 aJ.1))] ?_
 refine A.seq ?_
 refine qDs [(1, .qr (3:Int) (by decide))] [0] [(40, .bool (decide (Int.tmod n (3:Int) = (0:Int))))] ?_
 rcases ah hm with ⟨c2,hm⟩|⟨c2,hm⟩
 ·refine qT c2 ?_
  rcases ah hm with ⟨c3,hm⟩|⟨c3,hm⟩
  ·rcases ah hm with ⟨c4,hm⟩|⟨c4,hm⟩
   ·rcases ah hm with ⟨c5,hm⟩|⟨c5,hm⟩
    ·obtain ⟨bk, h5, hm⟩ := aa hm
     refine qS [(1, hto (bE c3)), (5, hto (bE c4)), (9, hto (bE c5)), (10, hro (qi h5) ah8)] [(2, .bool bk)] [] ?_
     cases hm
     exact A.ret qE
    refine qS [(1, hto (bE c3)), (5, hto (bE c4)), (9, hto (bE c5))] [(2, .bool false)] [] ?_
    cases hm
    exact A.ret qE
   refine qS [(1, hto (bE c3)), (5, hto (bE c4))] [(2, .bool false)] [] ?_
   cases hm
   exact A.ret qE
  refine qS [(1, hto (bE c3))] [(2, .bool false)] [] ?_
  cases hm
  exact A.ret qE
 refine qF c2 ?_
 refine A.skip ?_
 show ai _ _ _ _ _
 rcases ah hm with ⟨c6,hm⟩|⟨c6,hm⟩
 ·rcases ah hm with ⟨c7,hm⟩|⟨c7,hm⟩
  ·rcases ah hm with ⟨c8,hm⟩|⟨c8,hm⟩
   ·rcases ah hm with ⟨c9,hm⟩|⟨c9,hm⟩
    ·rcases ah hm with ⟨c10,hm⟩|⟨c10,hm⟩
     ·obtain ⟨bF, h6, hm⟩ := aa hm
      refine qS [(1, hto (bE c6)), (5, hto (bE c7)), (9, hto (bE c8)), (12, hto (lnE aF ay.1.aj)), (15, hto (lnE aF m_1)), (19, hto (bE c9)), (22, hto (lnE aF aJ.1.aj)), (25, hto (lnE aF m_1)), (29, hto (bE c10)), (30, hro (qi h6) ah8)] [(2, .bool bF)] [] ?_
      cases hm
      exact A.ret qE
     refine qS [(1, hto (bE c6)), (5, hto (bE c7)), (9, hto (bE c8)), (12, hto (lnE aF ay.1.aj)), (15, hto (lnE aF m_1)), (19, hto (bE c9)), (22, hto (lnE aF aJ.1.aj)), (25, hto (lnE aF m_1)), (29, hto (bE c10))] [(2, .bool false)] [] ?_
     cases hm
     exact A.ret qE
    refine qS [(1, hto (bE c6)), (5, hto (bE c7)), (9, hto (bE c8)), (12, hto (lnE aF ay.1.aj)), (15, hto (lnE aF m_1)), (19, hto (bE c9))] [(2, .bool false)] [] ?_
    cases hm
    exact A.ret qE
   refine qS [(1, hto (bE c6)), (5, hto (bE c7)), (9, hto (bE c8))] [(2, .bool false)] [] ?_
   cases hm
   exact A.ret qE
  refine qS [(1, hto (bE c6)), (5, hto (bE c7))] [(2, .bool false)] [] ?_
  cases hm
  exact A.ret qE
 refine qS [(1, hto (bE c6))] [(2, .bool false)] [] ?_
 cases hm
 exact A.ret qE
end Go.Proofs.YtpmifmdidfgpdaaGreat
