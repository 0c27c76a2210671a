/- The walks of functions of the program. No condition but those that stand in each. -/
import Derived.Test.YtflifgcoleknlaaDL5
import Derived.Test.YtflifgcoleknlaaVR
import Derived.Test.YtflifgcoleknlaaVL
import Derived.Test.YtflifgcoleknlaaV3
namespace Go.Proofs.Ytflifgcoleknlaa
open Go
set_option maxRecDepth 100000
set_option linter.all false
theorem m_law06_ShortestRoutes_ok {t : List Int} {r : Bool} (hm : m_law06_ShortestRoutes t = some r) : RO Try.prog 7 [] [lf eInt t] (.bool r) := by
 refine enterA Try.func7 rfl rfl ?_
 unfold m_law06_ShortestRoutes at hm
 refine qS [] [(0, lf eInt t)] [] ?_
 obtain ⟨vx_1, h1, hm⟩ := bnd_some hm
 refine qS [(1, hdc [900000064] (m_mk_New_ok h1) ck12)] [(3, .ptr 900000064 0)] [(900000064, .cells 64 (k3 vx_1))] ?_
 obtain ⟨vx_2, h2, hm⟩ := bnd_some hm
 refine qD [(1, hdc [500001300, 500001301] (m_mk_Tape_Topology_ok h2) ck13), (2, .al 7004)] [] [(4, .ptr 7004 0)] [900000064] [(900000064, .cells 64 (k3 vx_2.2)), (500001300, .slice 67 2 (ml eGRouter vx_2.1.Routers) 0 false), (500001301, .slice 42 5 (ml eGLink vx_2.1.Links) 0 false), (7004, .cells 28 [.own 500001300, .own 500001301])] ?_
 obtain ⟨vx_3, h3, hm⟩ := bnd_some hm
 obtain ⟨vx_4, h4, hm⟩ := bnd_some hm
 refine A.RS W0 [.fz [500001300, 500001301]] [(2, hdc [] (m_mk_Tape_Router_ok h3) ck14), (5, hdc [] (m_mk_Tape_Router_ok h4) ck14)] [(4, .ptr 7004 0), (5, i6 vx_3.1), (6, i6 vx_4.1)] [(500001300, .slice 67 2 (ml eGRouter vx_2.1.Routers) (ml eGRouter vx_2.1.Routers).length true), (500001301, .slice 42 5 (ml eGLink vx_2.1.Links) (ml eGLink vx_2.1.Links).length true), (7004, .cells 28 [.own 500001300, .own 500001301])] (by kernel_rfl) ?_
 obtain ⟨vx_5, h5, hm⟩ := bnd_some hm
 refine qS [(3, hro (m_shortest_Route_ok h5) ck18)] [(4, .ptr 7004 0), (5, i6 vx_3.1), (6, i6 vx_4.1), (7, lf eInt vx_5)] [(500001300, .slice 67 2 (ml eGRouter vx_2.1.Routers) (ml eGRouter vx_2.1.Routers).length true), (500001301, .slice 42 5 (ml eGLink vx_2.1.Links) (ml eGLink vx_2.1.Links).length true), (7004, .cells 28 [.own 500001300, .own 500001301])] ?_
 obtain ⟨vx_6, h6, hm⟩ := bnd_some hm
 refine qDs [(3, hro (m_shortest_Cost_ok h6) ck29)] [] [(8, i6 vx_6.1), (9, .bool vx_6.2)] ?_
 refine A.seq ?_
 refine A.mid [(4, .ptr 7004 0), (5, i6 vx_3.1), (6, i6 vx_4.1), (7, lf eInt vx_5), (8, i6 vx_6.1), (9, .bool vx_6.2), (39, .bool ((decide (vx_3.1 = vx_4.1)) || (!vx_6.2)))] [(500001300, .slice 67 2 (ml eGRouter vx_2.1.Routers) (ml eGRouter vx_2.1.Routers).length true), (500001301, .slice 42 5 (ml eGLink vx_2.1.Links) (ml eGLink vx_2.1.Links).length true), (7004, .cells 28 [.own 500001300, .own 500001301])] (fun hk => ?_) ?_
 ·rcases tf (decide (vx_3.1 = vx_4.1)) with c1 | c1
  ·exact qS [(3, hto (bE c1)), (6, hto (orT (q := !vx_6.2) c1))] _ _ hk
  exact qS [(3, hto (bE c1)), (6, hto (orF (q := !vx_6.2) c1))] _ _ hk
 rcases cs_some hm with ⟨c2,hm⟩|⟨c2,hm⟩
 ·refine qT c2 ?_
  rcases cs_some hm with ⟨c3,hm⟩|⟨c3,hm⟩
  ·rcases cs_some hm with ⟨c4,hm⟩|⟨c4,hm⟩
   ·obtain ⟨vx_7, h7, hm⟩ := bnd_some hm
    refine qS [(1, hto (lnE eInt vx_5)), (3, hto (bE c3)), (10, hto (bE c4)), (11, hro (m_law06_awake_ok h7) ck22)] [(2, .bool vx_7)] [] ?_
    cases hm
    exact A.ret qE
   refine qS [(1, hto (lnE eInt vx_5)), (3, hto (bE c3)), (10, hto (bE c4))] [(2, .bool false)] [] ?_
   cases hm
   exact A.ret qE
  refine qS [(1, hto (lnE eInt vx_5)), (3, hto (bE c3))] [(2, .bool false)] [] ?_
  cases hm
  exact A.ret qE
 refine qF c2 ?_
 refine A.skip ?_
 show acode _ _ _ _ _
 obtain ⟨vx_8, h8, hm⟩ := bnd_some hm
 refine qDs [(3, hro (m_shortest_Next_ok h8) ck16)] [9, 39] [(10, lf eInt vx_8)] ?_
 refine A.seq ?_
 obtain ⟨J1, hJ1, hm⟩ := jn_some hm
 refine A.J (J := J1) (r := r) (fun v_1 => [(4, .ptr 7004 0), (6, i6 vx_4.1), (7, lf eInt vx_5), (91, .bool v_1)]) (fun v_1 => [(500001300, .slice 67 2 (ml eGRouter vx_2.1.Routers) (ml eGRouter vx_2.1.Routers).length true), (500001301, .slice 42 5 (ml eGLink vx_2.1.Links) (ml eGLink vx_2.1.Links).length true), (7004, .cells 28 [.own 500001300, .own 500001301])]) ?_ ?_
 ·rcases cs_some hm with ⟨c5,hm⟩|⟨c5,hm⟩
  ·refine qGs [(1, hto (lnE eInt vx_5)), (3, hto (bE c5))] [5, 8, 10] [(91, .bool true)] ?_
   exact qX true hm
  obtain ⟨e_1, h9, hm⟩ := bnd_some hm
  rcases cs_some hm with ⟨c6,hm⟩|⟨c6,hm⟩
  ·refine qGs [(1, hto (lnE eInt vx_5)), (3, hto (bE c5)), (6, hto (lnE eInt vx_5)), (8, hix (ix eInt h9)), (13, hto (bE c6))] [5, 8, 10] [(91, .bool true)] ?_
   exact qX true hm
  obtain ⟨vx_9, h10, hm⟩ := bnd_some hm
  rcases cs_some hm with ⟨c7,hm⟩|⟨c7,hm⟩
  ·refine qGs [(1, hto (lnE eInt vx_5)), (3, hto (bE c5)), (6, hto (lnE eInt vx_5)), (8, hix (ix eInt h9)), (13, hto (bE c6)), (17, hro (m_law06_length_ok h10) ck32), (21, hto (bE c7))] [5, 8, 10] [(91, .bool true)] ?_
   exact qX true hm
  rcases cs_some hm with ⟨c8,hm⟩|⟨c8,hm⟩
  ·refine qGs [(1, hto (lnE eInt vx_5)), (3, hto (bE c5)), (6, hto (lnE eInt vx_5)), (8, hix (ix eInt h9)), (13, hto (bE c6)), (17, hro (m_law06_length_ok h10) ck32), (21, hto (bE c7)), (23, hto (lnE eInt vx_8)), (26, hto (bE c8))] [5, 8, 10] [(91, .bool true)] ?_
   exact qX true hm
  obtain ⟨e_2, h11, hm⟩ := bnd_some hm
  obtain ⟨e_3, h12, hm⟩ := bnd_some hm
  refine qGs [(1, hto (lnE eInt vx_5)), (3, hto (bE c5)), (6, hto (lnE eInt vx_5)), (8, hix (ix eInt h9)), (13, hto (bE c6)), (17, hro (m_law06_length_ok h10) ck32), (21, hto (bE c7)), (23, hto (lnE eInt vx_8)), (26, hto (bE c8)), (28, hix (ix eInt h11)), (31, hix (ix eInt h12))] [5, 8, 10] [(91, .bool (!decide (e_2 = e_3)))] ?_
  exact qX (!decide (e_2 = e_3)) hm
 rintro v_1 hm
 rw [hJ1] at hm
 rcases cs_some hm with ⟨c9,hm⟩|⟨c9,hm⟩
 ·refine qT c9 ?_
  refine qS [] [(2, .bool false)] [] ?_
  cases hm
  exact A.ret qE
 refine qF c9 ?_
 refine A.skip ?_
 show acode _ _ _ _ _
 refine A.seq ?_
 refine qDs [] [91] [(11, i6 0)] ?_
 refine A.block ?_
 obtain ⟨F1, n1, hF1, hm⟩ := whl_some hm
 refine A.lpW (F := F1) hm (fun i_1 => [(4, .ptr 7004 0), (6, i6 vx_4.1), (7, lf eInt vx_5), (11, i6 i_1)]) (fun i_1 => [(500001300, .slice 67 2 (ml eGRouter vx_2.1.Routers) (ml eGRouter vx_2.1.Routers).length true), (500001301, .slice 42 5 (ml eGLink vx_2.1.Links) (ml eGLink vx_2.1.Links).length true), (7004, .cells 28 [.own 500001300, .own 500001301])]) ?_ ?_
 ·exact qW
 rintro Z1 i_1 hm
 rw [hF1] at hm
 refine A.seq ?_
 refine qDs [(3, hto (lnE eInt vx_5))] [] [(96, .bool (decide (w64 (i_1 + (1:Int)) < (vx_5.length:Int))))] ?_
 rcases cs_some hm with ⟨c10,hm⟩|⟨c10,hm⟩
 ·refine qT c10 ?_
  refine A.skip ?_
  show acode _ _ _ _ _
  refine A.seq ?_
  refine A.block ?_
  obtain ⟨e_4, h13, hm⟩ := bnd_some hm
  obtain ⟨vx_10, h14, hm⟩ := bnd_some hm
  obtain ⟨l_1, h15, hm⟩ := bnd_some hm
  obtain ⟨vx_11, h16, hm⟩ := bnd_some hm
  refine qDs [(3, hix (ix eInt h13)), (6, hro (m_shortest_Route_ok h14) ck18), (10, hsl (slE2 eInt h15)), (11, hro (m_ref04_Ints_ok h16) ck15)] [96] [(111, .bool (!vx_11))] ?_
  rcases cs_some hm with ⟨c11,hm⟩|⟨c11,hm⟩
  ·refine qT c11 ?_
   refine qS [] [(2, .bool false)] [] ?_
   cases hm
   exact A.ret qE
  refine qF c11 ?_
  refine A.skip ?_
  show acode _ _ _ _ _
  refine qGs [] [11, 111] [(11, i6 (w64 (i_1 + (1:Int))))] ?_
  exact qX (w64 (i_1 + (1:Int))) hm
 refine qF c10 ?_
 refine A.exit ?_
 show acode _ _ _ _ _
 obtain ⟨vx_12, h17, hm⟩ := bnd_some hm
 refine qS [(0, hro (m_law06_awake_ok h17) ck22)] [(2, .bool vx_12)] [] ?_
 cases hm
 exact A.ret qE
end Go.Proofs.Ytflifgcoleknlaa
