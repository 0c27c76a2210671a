/- The walks of functions of the program. No condition but those that stand in each. -/
import Derived.Test.YtflifgcoleknlaaDL1
import Derived.Test.YtflifgcoleknlaaVR
import Derived.Test.YtflifgcoleknlaaVL
import Derived.Test.YtflifgcoleknlaaV3
namespace Go.Proofs.Ytflifgcoleknlaa
open Go
set_option maxRecDepth 100000
set_option linter.all false
theorem m_law06_ShortestSteps_ok {t : List Int} {xa1 : Int} {y : Int} {r : Bool} (hm : m_law06_ShortestSteps t xa1 y = some r) : RO Try.prog 3 [] [lf eInt t, i6 xa1, i6 y] (.bool r) := by
 refine enterA Try.func3 rfl rfl ?_
 unfold m_law06_ShortestSteps at hm
 refine qS [] [(0, lf eInt t), (1, i6 xa1), (2, i6 y)] [] ?_
 obtain ⟨vx_1, h1, hm⟩ := bnd_some hm
 refine qD [(1, hdc [900000064] (m_mk_New_ok h1) ck12)] [0] [(7, .ptr 900000064 0)] [] [(900000064, .cells 64 (k3 vx_1))] ?_
 obtain ⟨vx_2, h2, hm⟩ := bnd_some hm
 refine qD [(1, hdc [500001300, 500001301] (m_mk_Tape_Topology_ok h2) ck13), (2, .al 3008)] [] [(8, .ptr 3008 0)] [900000064] [(900000064, .cells 64 (k3 vx_2.2)), (500001300, .slice 67 2 (ml eGRouter vx_2.1.Routers) 0 false), (500001301, .slice 42 5 (ml eGLink vx_2.1.Links) 0 false), (3008, .cells 28 [.own 500001300, .own 500001301])] ?_
 obtain ⟨vx_3, h3, hm⟩ := bnd_some hm
 obtain ⟨vx_4, h4, hm⟩ := bnd_some hm
 obtain ⟨vx_5, h5, hm⟩ := bnd_some hm
 obtain ⟨vx_6, h6, hm⟩ := bnd_some hm
 refine A.RS W0 [.fz [500001300, 500001301]] [(2, hba (arrS (n := 2) ze30 Try.underlying30 Try.sizeOf3)), (5, hdc [] (m_mk_Tape_Router_ok h3) ck14), (8, hdc [] (m_mk_Tape_Router_ok h4) ck14), (9, hba (arrS (n := 2) ze30 Try.underlying30 Try.sizeOf3)), (12, hdc [] (m_mk_Tape_Router_ok h5) ck14), (15, hdc [] (m_mk_Tape_Router_ok h6) ck14), (16, hba (arrS (n := 2) ze30 Try.underlying30 Try.sizeOf3)), (17, hba (arrS (n := 3) ze32 Try.underlying32 Try.sizeOf30)), (18, .al 3009)] [(8, .ptr 3008 0), (9, .ptr 3009 0)] [(500001300, .slice 67 2 (ml eGRouter vx_2.1.Routers) (ml eGRouter vx_2.1.Routers).length true), (500001301, .slice 42 5 (ml eGLink vx_2.1.Links) (ml eGLink vx_2.1.Links).length true), (3008, .cells 28 [.own 500001300, .own 500001301]), (3009, .cells 32 [i6 xa1, i6 y, i6 vx_3.1, i6 vx_4.1, i6 vx_5.1, i6 vx_6.1])] (by kernel_rfl) ?_
 refine A.seq ?_
 refine qS [] [(8, .ptr 3008 0), (9, .ptr 3009 0), (10, i6 0)] [(500001300, .slice 67 2 (ml eGRouter vx_2.1.Routers) (ml eGRouter vx_2.1.Routers).length true), (500001301, .slice 42 5 (ml eGLink vx_2.1.Links) (ml eGLink vx_2.1.Links).length true), (3008, .cells 28 [.own 500001300, .own 500001301]), (3009, .cells 32 [i6 xa1, i6 y, i6 vx_3.1, i6 vx_4.1, i6 vx_5.1, i6 vx_6.1])] ?_
 refine A.block ?_
 refine A.unroll 4 ?_
 refine A.rnd ?_
 refine A.seq ?_
 refine qS [] [(8, .ptr 3008 0), (9, .ptr 3009 0), (10, i6 0), (36, .bool true)] [(500001300, .slice 67 2 (ml eGRouter vx_2.1.Routers) (ml eGRouter vx_2.1.Routers).length true), (500001301, .slice 42 5 (ml eGLink vx_2.1.Links) (ml eGLink vx_2.1.Links).length true), (3008, .cells 28 [.own 500001300, .own 500001301]), (3009, .cells 32 [i6 xa1, i6 y, i6 vx_3.1, i6 vx_4.1, i6 vx_5.1, i6 vx_6.1])] ?_
 refine A.cT rfl rfl ?_
 refine A.skip ?_
 show acode _ _ _ _ _
 refine A.seq ?_
 refine A.block ?_
 refine qDs [(1, hia Try.underlying32 Try.sizeOf30), (2, hia Try.underlying30 Try.sizeOf3), (5, hia Try.underlying32 Try.sizeOf30), (6, hia Try.underlying30 Try.sizeOf3)] [36] [(11, i6 xa1), (12, i6 y)] ?_
 obtain ⟨J1, hJ1, hm⟩ := jn_some hm
 refine A.J (J := J1) (r := r) (fun v_1 => [(8, .ptr 3008 0), (9, .ptr 3009 0), (10, i6 0), (79, .bool v_1)]) (fun v_1 => [(500001300, .slice 67 2 (ml eGRouter vx_2.1.Routers) (ml eGRouter vx_2.1.Routers).length true), (500001301, .slice 42 5 (ml eGLink vx_2.1.Links) (ml eGLink vx_2.1.Links).length true), (3008, .cells 28 [.own 500001300, .own 500001301]), (3009, .cells 32 [i6 xa1, i6 y, i6 vx_3.1, i6 vx_4.1, i6 vx_5.1, i6 vx_6.1])]) ?_ ?_
 ·obtain ⟨vx_7, h7, hm⟩ := bnd_some hm
  obtain ⟨vx_8, h8, hm⟩ := bnd_some hm
  obtain ⟨vx_9, h9, hm⟩ := bnd_some hm
  rcases cs_some hm with ⟨c1,hm⟩|⟨c1,hm⟩
  ·refine qGs [(3, hro (m_shortest_Next_ok h7) ck16), (7, hro (m_ref06_Next_ok h8) ck17), (8, hro (m_ref04_Ints_ok h9) ck15), (10, hto (bE c1))] [11, 12] [(79, .bool true)] ?_
   exact qX true hm
  obtain ⟨vx_10, h10, hm⟩ := bnd_some hm
  obtain ⟨vx_11, h11, hm⟩ := bnd_some hm
  obtain ⟨vx_12, h12, hm⟩ := bnd_some hm
  rcases cs_some hm with ⟨c2,hm⟩|⟨c2,hm⟩
  ·refine qGs [(3, hro (m_shortest_Next_ok h7) ck16), (7, hro (m_ref06_Next_ok h8) ck17), (8, hro (m_ref04_Ints_ok h9) ck15), (10, hto (bE c1)), (14, hro (m_shortest_Route_ok h10) ck18), (18, hro (m_ref06_Route_ok h11) ck19), (19, hro (m_ref04_Ints_ok h12) ck15), (22, hto (bE c2))] [11, 12] [(79, .bool true)] ?_
   exact qX true hm
  obtain ⟨vx_13, h13, hm⟩ := bnd_some hm
  obtain ⟨vx_14, h14, hm⟩ := bnd_some hm
  refine qGs [(3, hro (m_shortest_Next_ok h7) ck16), (7, hro (m_ref06_Next_ok h8) ck17), (8, hro (m_ref04_Ints_ok h9) ck15), (10, hto (bE c1)), (14, hro (m_shortest_Route_ok h10) ck18), (18, hro (m_ref06_Route_ok h11) ck19), (19, hro (m_ref04_Ints_ok h12) ck15), (22, hto (bE c2)), (26, hro (m_shortest_Paths_ok h13) ck20), (30, hro (m_ref06_Paths_ok h14) ck21)] [11, 12] [(79, .bool (!decide (vx_13 = vx_14)))] ?_
  exact qX (!decide (vx_13 = vx_14)) hm
 rintro v_1 hm
 rw [hJ1] at hm
 rcases cs_some hm with ⟨c3,hm⟩|⟨c3,hm⟩
 ·refine qT c3 ?_
  refine qS [] [(6, .bool false)] [] ?_
  cases hm
  exact A.ret qE
 refine qF c3 ?_
 refine A.skip ?_
 show acode _ _ _ _ _
 refine qGs [] [10, 79] [(10, i6 1)] ?_
 show aRounds _ _ _ _ _ _
 refine A.rnd ?_
 refine A.seq ?_
 refine qS [] [(8, .ptr 3008 0), (9, .ptr 3009 0), (10, i6 1), (36, .bool true)] [(500001300, .slice 67 2 (ml eGRouter vx_2.1.Routers) (ml eGRouter vx_2.1.Routers).length true), (500001301, .slice 42 5 (ml eGLink vx_2.1.Links) (ml eGLink vx_2.1.Links).length true), (3008, .cells 28 [.own 500001300, .own 500001301]), (3009, .cells 32 [i6 xa1, i6 y, i6 vx_3.1, i6 vx_4.1, i6 vx_5.1, i6 vx_6.1])] ?_
 refine A.cT rfl rfl ?_
 refine A.skip ?_
 show acode _ _ _ _ _
 refine A.seq ?_
 refine A.block ?_
 refine qDs [(1, hia Try.underlying32 Try.sizeOf30), (2, hia Try.underlying30 Try.sizeOf3), (5, hia Try.underlying32 Try.sizeOf30), (6, hia Try.underlying30 Try.sizeOf3)] [36] [(11, i6 vx_3.1), (12, i6 vx_4.1)] ?_
 obtain ⟨J2, hJ2, hm⟩ := jn_some hm
 refine A.J (J := J2) (r := r) (fun v_2 => [(8, .ptr 3008 0), (9, .ptr 3009 0), (10, i6 1), (79, .bool v_2)]) (fun v_2 => [(500001300, .slice 67 2 (ml eGRouter vx_2.1.Routers) (ml eGRouter vx_2.1.Routers).length true), (500001301, .slice 42 5 (ml eGLink vx_2.1.Links) (ml eGLink vx_2.1.Links).length true), (3008, .cells 28 [.own 500001300, .own 500001301]), (3009, .cells 32 [i6 xa1, i6 y, i6 vx_3.1, i6 vx_4.1, i6 vx_5.1, i6 vx_6.1])]) ?_ ?_
 ·obtain ⟨vx_15, h15, hm⟩ := bnd_some hm
  obtain ⟨vx_16, h16, hm⟩ := bnd_some hm
  obtain ⟨vx_17, h17, hm⟩ := bnd_some hm
  rcases cs_some hm with ⟨c4,hm⟩|⟨c4,hm⟩
  ·refine qGs [(3, hro (m_shortest_Next_ok h15) ck16), (7, hro (m_ref06_Next_ok h16) ck17), (8, hro (m_ref04_Ints_ok h17) ck15), (10, hto (bE c4))] [11, 12] [(79, .bool true)] ?_
   exact qX true hm
  obtain ⟨vx_18, h18, hm⟩ := bnd_some hm
  obtain ⟨vx_19, h19, hm⟩ := bnd_some hm
  obtain ⟨vx_20, h20, hm⟩ := bnd_some hm
  rcases cs_some hm with ⟨c5,hm⟩|⟨c5,hm⟩
  ·refine qGs [(3, hro (m_shortest_Next_ok h15) ck16), (7, hro (m_ref06_Next_ok h16) ck17), (8, hro (m_ref04_Ints_ok h17) ck15), (10, hto (bE c4)), (14, hro (m_shortest_Route_ok h18) ck18), (18, hro (m_ref06_Route_ok h19) ck19), (19, hro (m_ref04_Ints_ok h20) ck15), (22, hto (bE c5))] [11, 12] [(79, .bool true)] ?_
   exact qX true hm
  obtain ⟨vx_21, h21, hm⟩ := bnd_some hm
  obtain ⟨vx_22, h22, hm⟩ := bnd_some hm
  refine qGs [(3, hro (m_shortest_Next_ok h15) ck16), (7, hro (m_ref06_Next_ok h16) ck17), (8, hro (m_ref04_Ints_ok h17) ck15), (10, hto (bE c4)), (14, hro (m_shortest_Route_ok h18) ck18), (18, hro (m_ref06_Route_ok h19) ck19), (19, hro (m_ref04_Ints_ok h20) ck15), (22, hto (bE c5)), (26, hro (m_shortest_Paths_ok h21) ck20), (30, hro (m_ref06_Paths_ok h22) ck21)] [11, 12] [(79, .bool (!decide (vx_21 = vx_22)))] ?_
  exact qX (!decide (vx_21 = vx_22)) hm
 rintro v_2 hm
 rw [hJ2] at hm
 rcases cs_some hm with ⟨c6,hm⟩|⟨c6,hm⟩
 ·refine qT c6 ?_
  refine qS [] [(6, .bool false)] [] ?_
  cases hm
  exact A.ret qE
 refine qF c6 ?_
 refine A.skip ?_
 show acode _ _ _ _ _
 refine qGs [] [10, 79] [(10, i6 2)] ?_
 show aRounds _ _ _ _ _ _
 refine A.rnd ?_
 refine A.seq ?_
 refine qS [] [(8, .ptr 3008 0), (9, .ptr 3009 0), (10, i6 2), (36, .bool true)] [(500001300, .slice 67 2 (ml eGRouter vx_2.1.Routers) (ml eGRouter vx_2.1.Routers).length true), (500001301, .slice 42 5 (ml eGLink vx_2.1.Links) (ml eGLink vx_2.1.Links).length true), (3008, .cells 28 [.own 500001300, .own 500001301]), (3009, .cells 32 [i6 xa1, i6 y, i6 vx_3.1, i6 vx_4.1, i6 vx_5.1, i6 vx_6.1])] ?_
 refine A.cT rfl rfl ?_
 refine A.skip ?_
 show acode _ _ _ _ _
 refine A.seq ?_
 refine A.block ?_
 refine qDs [(1, hia Try.underlying32 Try.sizeOf30), (2, hia Try.underlying30 Try.sizeOf3), (5, hia Try.underlying32 Try.sizeOf30), (6, hia Try.underlying30 Try.sizeOf3)] [36] [(11, i6 vx_5.1), (12, i6 vx_6.1)] ?_
 obtain ⟨J3, hJ3, hm⟩ := jn_some hm
 refine A.J (J := J3) (r := r) (fun v_3 => [(8, .ptr 3008 0), (9, .ptr 3009 0), (10, i6 2), (79, .bool v_3)]) (fun v_3 => [(500001300, .slice 67 2 (ml eGRouter vx_2.1.Routers) (ml eGRouter vx_2.1.Routers).length true), (500001301, .slice 42 5 (ml eGLink vx_2.1.Links) (ml eGLink vx_2.1.Links).length true), (3008, .cells 28 [.own 500001300, .own 500001301]), (3009, .cells 32 [i6 xa1, i6 y, i6 vx_3.1, i6 vx_4.1, i6 vx_5.1, i6 vx_6.1])]) ?_ ?_
 ·obtain ⟨vx_23, h23, hm⟩ := bnd_some hm
  obtain ⟨vx_24, h24, hm⟩ := bnd_some hm
  obtain ⟨vx_25, h25, hm⟩ := bnd_some hm
  rcases cs_some hm with ⟨c7,hm⟩|⟨c7,hm⟩
  ·refine qGs [(3, hro (m_shortest_Next_ok h23) ck16), (7, hro (m_ref06_Next_ok h24) ck17), (8, hro (m_ref04_Ints_ok h25) ck15), (10, hto (bE c7))] [11, 12] [(79, .bool true)] ?_
   exact qX true hm
  obtain ⟨vx_26, h26, hm⟩ := bnd_some hm
  obtain ⟨vx_27, h27, hm⟩ := bnd_some hm
  obtain ⟨vx_28, h28, hm⟩ := bnd_some hm
  rcases cs_some hm with ⟨c8,hm⟩|⟨c8,hm⟩
  ·refine qGs [(3, hro (m_shortest_Next_ok h23) ck16), (7, hro (m_ref06_Next_ok h24) ck17), (8, hro (m_ref04_Ints_ok h25) ck15), (10, hto (bE c7)), (14, hro (m_shortest_Route_ok h26) ck18), (18, hro (m_ref06_Route_ok h27) ck19), (19, hro (m_ref04_Ints_ok h28) ck15), (22, hto (bE c8))] [11, 12] [(79, .bool true)] ?_
   exact qX true hm
  obtain ⟨vx_29, h29, hm⟩ := bnd_some hm
  obtain ⟨vx_30, h30, hm⟩ := bnd_some hm
  refine qGs [(3, hro (m_shortest_Next_ok h23) ck16), (7, hro (m_ref06_Next_ok h24) ck17), (8, hro (m_ref04_Ints_ok h25) ck15), (10, hto (bE c7)), (14, hro (m_shortest_Route_ok h26) ck18), (18, hro (m_ref06_Route_ok h27) ck19), (19, hro (m_ref04_Ints_ok h28) ck15), (22, hto (bE c8)), (26, hro (m_shortest_Paths_ok h29) ck20), (30, hro (m_ref06_Paths_ok h30) ck21)] [11, 12] [(79, .bool (!decide (vx_29 = vx_30)))] ?_
  exact qX (!decide (vx_29 = vx_30)) hm
 rintro v_3 hm
 rw [hJ3] at hm
 rcases cs_some hm with ⟨c9,hm⟩|⟨c9,hm⟩
 ·refine qT c9 ?_
  refine qS [] [(6, .bool false)] [] ?_
  cases hm
  exact A.ret qE
 refine qF c9 ?_
 refine A.skip ?_
 show acode _ _ _ _ _
 refine qGs [] [10, 79] [(10, i6 3)] ?_
 show aRounds _ _ _ _ _ _
 refine A.rnd ?_
 refine A.seq ?_
 refine qS [] [(8, .ptr 3008 0), (9, .ptr 3009 0), (10, i6 3), (36, .bool false)] [(500001300, .slice 67 2 (ml eGRouter vx_2.1.Routers) (ml eGRouter vx_2.1.Routers).length true), (500001301, .slice 42 5 (ml eGLink vx_2.1.Links) (ml eGLink vx_2.1.Links).length true), (3008, .cells 28 [.own 500001300, .own 500001301]), (3009, .cells 32 [i6 xa1, i6 y, i6 vx_3.1, i6 vx_4.1, i6 vx_5.1, i6 vx_6.1])] ?_
 refine A.cF rfl rfl ?_
 refine A.exit ?_
 show acode _ _ _ _ _
 obtain ⟨vx_31, h31, hm⟩ := bnd_some hm
 refine qS [(0, hro (m_law06_awake_ok h31) ck22)] [(6, .bool vx_31)] [] ?_
 cases hm
 exact A.ret qE
end Go.Proofs.Ytflifgcoleknlaa
