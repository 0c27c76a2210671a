/- The walks of functions of the program. No condition but those that stand in each. -/
import Derived.Test.YtflifgcoleknlaaDL8
import Derived.Test.YtflifgcoleknlaaVR
import Derived.Test.YtflifgcoleknlaaVL
import Derived.Test.YtflifgcoleknlaaV3
namespace Go.Proofs.Ytflifgcoleknlaa
open Go
set_option maxRecDepth 100000
set_option linter.all false
theorem m_law06_ShortestAvoids_ok {t : List Int} {r : Bool} (hm : m_law06_ShortestAvoids t = some r) : RO Try.prog 9 [] [lf eInt t] (.bool r) := by
 refine enterA Try.func9 rfl rfl ?_
 unfold m_law06_ShortestAvoids at hm
 refine qS [] [(0, lf eInt t)] [] ?_
 obtain ⟨vx_1, h1, hm⟩ := bnd_some hm
 refine qS [(1, hdc [900000064] (m_mk_New_ok h1) ck12)] [(3, .ptr 900000064 0)] [(900000064, .cells 64 (k3 vx_1))] ?_
 obtain ⟨vx_2, h2, hm⟩ := bnd_some hm
 refine qD [(1, hdc [500001300, 500001301] (m_mk_Tape_Topology_ok h2) ck13), (2, .al 9004)] [] [(4, .ptr 9004 0)] [900000064] [(900000064, .cells 64 (k3 vx_2.2)), (500001300, .slice 67 2 (ml eGRouter vx_2.1.Routers) 0 false), (500001301, .slice 42 5 (ml eGLink vx_2.1.Links) 0 false), (9004, .cells 28 [.own 500001300, .own 500001301])] ?_
 obtain ⟨vx_3, h3, hm⟩ := bnd_some hm
 obtain ⟨vx_4, h4, hm⟩ := bnd_some hm
 obtain ⟨vx_5, h5, hm⟩ := bnd_some hm
 refine A.RS W0 [.fz [500001300, 500001301]] [(2, hdc [] (m_mk_Tape_Router_ok h3) ck14), (5, hdc [] (m_mk_Tape_Router_ok h4) ck14), (8, hdc [] (m_mk_Tape_Router_ok h5) ck14)] [(4, .ptr 9004 0), (5, i6 vx_3.1), (6, i6 vx_4.1), (7, i6 vx_5.1)] [(500001300, .slice 67 2 (ml eGRouter vx_2.1.Routers) (ml eGRouter vx_2.1.Routers).length true), (500001301, .slice 42 5 (ml eGLink vx_2.1.Links) (ml eGLink vx_2.1.Links).length true), (9004, .cells 28 [.own 500001300, .own 500001301])] (by kernel_rfl) ?_
 refine A.seq ?_
 refine A.mid [(4, .ptr 9004 0), (5, i6 vx_3.1), (6, i6 vx_4.1), (7, i6 vx_5.1), (34, .bool ((decide (vx_3.1 = vx_5.1)) || (decide (vx_4.1 = vx_5.1))))] [(500001300, .slice 67 2 (ml eGRouter vx_2.1.Routers) (ml eGRouter vx_2.1.Routers).length true), (500001301, .slice 42 5 (ml eGLink vx_2.1.Links) (ml eGLink vx_2.1.Links).length true), (9004, .cells 28 [.own 500001300, .own 500001301])] (fun hk => ?_) ?_
 ·rcases tf (decide (vx_3.1 = vx_5.1)) with c1 | c1
  ·exact qS [(3, hto (bE c1)), (7, hto (orT (q := decide (vx_4.1 = vx_5.1)) c1))] _ _ hk
  exact qS [(3, hto (bE c1)), (7, hto (orF (q := decide (vx_4.1 = vx_5.1)) c1))] _ _ hk
 rcases cs_some hm with ⟨c2,hm⟩|⟨c2,hm⟩
 ·refine qT c2 ?_
  obtain ⟨vx_6, h6, hm⟩ := bnd_some hm
  rcases cs_some hm with ⟨c3,hm⟩|⟨c3,hm⟩
  ·obtain ⟨vx_7, h7, hm⟩ := bnd_some hm
   refine qS [(4, hro (m_shortest_Avoids_ok h6) ck26), (6, hto (bE c3)), (7, hro (m_law06_awake_ok h7) ck22)] [(2, .bool vx_7)] [] ?_
   cases hm
   exact A.ret qE
  refine qS [(4, hro (m_shortest_Avoids_ok h6) ck26), (6, hto (bE c3))] [(2, .bool false)] [] ?_
  cases hm
  exact A.ret qE
 refine qF c2 ?_
 refine A.skip ?_
 show acode _ _ _ _ _
 obtain ⟨vx_8, h8, hm⟩ := bnd_some hm
 refine qD [(4, hro (m_ref05_Without_ok h8) ck35), (5, .al 9008)] [34] [(8, .ptr 9008 0)] [] [(9008, .cells 28 (k2 vx_8))] ?_
 obtain ⟨vx_9, h9, hm⟩ := bnd_some hm
 refine qDs [(3, hro (m_shortest_Cost_ok h9) ck29)] [] [(9, i6 vx_9.1), (10, .bool vx_9.2)] ?_
 obtain ⟨vx_10, h10, hm⟩ := bnd_some hm
 refine qDs [(3, hro (m_shortest_Cost_ok h10) ck29)] [] [(11, i6 vx_10.1), (12, .bool vx_10.2)] ?_
 obtain ⟨J1, hJ1, hm⟩ := jn_some hm
 refine A.J (J := J1) (r := r) (fun same_1 => [(4, .ptr 9004 0), (5, i6 vx_3.1), (6, i6 vx_4.1), (7, i6 vx_5.1), (13, .bool same_1)]) (fun same_1 => [(500001300, .slice 67 2 (ml eGRouter vx_2.1.Routers) (ml eGRouter vx_2.1.Routers).length true), (500001301, .slice 42 5 (ml eGLink vx_2.1.Links) (ml eGLink vx_2.1.Links).length true), (9004, .cells 28 [.own 500001300, .own 500001301])]) ?_ ?_
 ·rcases cs_some hm with ⟨c4,hm⟩|⟨c4,hm⟩
  ·rcases cs_some hm with ⟨c5,hm⟩|⟨c5,hm⟩
   ·rcases cs_some hm with ⟨c6,hm⟩|⟨c6,hm⟩
    ·obtain ⟨vx_11, h11, hm⟩ := bnd_some hm
     obtain ⟨vx_12, h12, hm⟩ := bnd_some hm
     refine qG [(1, hto (bE c4)), (4, hto (bE c5)), (9, hto (bE c6)), (13, hro (m_shortest_Paths_ok h11) ck20), (17, hro (m_shortest_Paths_ok h12) ck20)] [8, 9, 10, 11, 12] [(13, .bool (decide (vx_11 = vx_12)))] [9008] [] ?_
     exact qX (decide (vx_11 = vx_12)) hm
    refine qG [(1, hto (bE c4)), (4, hto (bE c5)), (9, hto (bE c6))] [8, 9, 10, 11, 12] [(13, .bool false)] [9008] [] ?_
    exact qX false hm
   refine qG [(1, hto (bE c4)), (4, hto (bE c5))] [8, 9, 10, 11, 12] [(13, .bool false)] [9008] [] ?_
   exact qX false hm
  refine qG [(1, hto (bE c4))] [8, 9, 10, 11, 12] [(13, .bool false)] [9008] [] ?_
  exact qX false hm
 rintro same_1 hm
 rw [hJ1] at hm
 obtain ⟨vx_13, h13, hm⟩ := bnd_some hm
 rcases cs_some hm with ⟨c7,hm⟩|⟨c7,hm⟩
 ·obtain ⟨vx_14, h14, hm⟩ := bnd_some hm
  refine qS [(4, hro (m_shortest_Avoids_ok h13) ck26), (7, hto (bE c7)), (8, hro (m_law06_awake_ok h14) ck22)] [(2, .bool vx_14)] [] ?_
  cases hm
  exact A.ret qE
 refine qS [(4, hro (m_shortest_Avoids_ok h13) ck26), (7, hto (bE c7))] [(2, .bool false)] [] ?_
 cases hm
 exact A.ret qE
end Go.Proofs.Ytflifgcoleknlaa
