/- The walks of functions of the program. No condition but those that stand in each. -/
import Derived.Test.YtflifgcoleknlaaDL7
import Derived.Test.YtflifgcoleknlaaVR
import Derived.Test.YtflifgcoleknlaaVL
import Derived.Test.YtflifgcoleknlaaV3
namespace Go.Proofs.Ytflifgcoleknlaa
open Go
set_option maxRecDepth 100000
set_option linter.all false
theorem m_law06_ShortestCounts_ok {t : List Int} {r : Bool} (hm : m_law06_ShortestCounts t = some r) : RO Try.prog 5 [] [lf eInt t] (.bool r) := by
 refine enterA Try.func5 rfl rfl ?_
 unfold m_law06_ShortestCounts at hm
 refine qS [] [(0, lf eInt t)] [] ?_
 obtain ⟨vx_1, h1, hm⟩ := bnd_some hm
 refine qS [(1, hdc [900000064] (m_mk_New_ok h1) ck12)] [(3, .ptr 900000064 0)] [(900000064, .cells 64 (k3 vx_1))] ?_
 obtain ⟨vx_2, h2, hm⟩ := bnd_some hm
 refine qD [(1, hdc [500001300, 500001301] (m_mk_Tape_Topology_ok h2) ck13), (2, .al 5004)] [] [(4, .ptr 5004 0)] [900000064] [(900000064, .cells 64 (k3 vx_2.2)), (500001300, .slice 67 2 (ml eGRouter vx_2.1.Routers) 0 false), (500001301, .slice 42 5 (ml eGLink vx_2.1.Links) 0 false), (5004, .cells 28 [.own 500001300, .own 500001301])] ?_
 obtain ⟨vx_3, h3, hm⟩ := bnd_some hm
 obtain ⟨vx_4, h4, hm⟩ := bnd_some hm
 refine A.RS W0 [.fz [500001300, 500001301]] [(2, hdc [] (m_mk_Tape_Router_ok h3) ck14), (5, hdc [] (m_mk_Tape_Router_ok h4) ck14)] [(4, .ptr 5004 0), (5, i6 vx_3.1), (6, i6 vx_4.1)] [(500001300, .slice 67 2 (ml eGRouter vx_2.1.Routers) (ml eGRouter vx_2.1.Routers).length true), (500001301, .slice 42 5 (ml eGLink vx_2.1.Links) (ml eGLink vx_2.1.Links).length true), (5004, .cells 28 [.own 500001300, .own 500001301])] (by kernel_rfl) ?_
 refine qS [] [(4, .ptr 5004 0), (5, i6 vx_3.1), (6, i6 vx_4.1), (7, i6 0)] [(500001300, .slice 67 2 (ml eGRouter vx_2.1.Routers) (ml eGRouter vx_2.1.Routers).length true), (500001301, .slice 42 5 (ml eGLink vx_2.1.Links) (ml eGLink vx_2.1.Links).length true), (5004, .cells 28 [.own 500001300, .own 500001301])] ?_
 obtain ⟨vx_5, h5, hm⟩ := bnd_some hm
 refine qDs [(3, hro (m_shortest_Next_ok h5) ck16)] [] [(8, lf eInt vx_5)] ?_
 refine A.seq ?_
 refine qDs [] [] [(9, i6 0)] ?_
 refine A.block ?_
 refine A.bS 8 rfl fun hb1 => ?_
 obtain ⟨B1, K1, hB1, hK1, hm⟩ := forI_some hm
 refine A.lpI (l := vx_5) (j0 := 0) (B := B1) (K := K1) hm (fun j1 => fun n_1 => [(4, .ptr 5004 0), (5, i6 vx_3.1), (6, i6 vx_4.1), (7, i6 n_1), (8, lf eInt vx_5), (9, i6 (j1 : Int))]) (fun j1 => fun n_1 => [(500001300, .slice 67 2 (ml eGRouter vx_2.1.Routers) (ml eGRouter vx_2.1.Routers).length true), (500001301, .slice 42 5 (ml eGLink vx_2.1.Links) (ml eGLink vx_2.1.Links).length true), (5004, .cells 28 [.own 500001300, .own 500001301])]) ?_ ?_ ?_
 ·exact qW
 ·rintro j1 e1 Z1 n_1 hj1 hx1 hm
  rw [hB1] at hm
  refine A.seq ?_
  refine qDs [(2, hto (lnE eInt vx_5))] [] [(27, .bool (decide ((j1 : Int) < (vx_5.length:Int))))] ?_
  refine qT (ltT hx1) ?_
  refine A.skip ?_
  show acode _ _ _ _ _
  refine A.seq ?_
  refine A.block ?_
  obtain ⟨vx_6, h6, hm⟩ := bnd_some hm
  refine qGs [(4, hix (ix eInt (elO_nat hx1))), (7, hro (m_shortest_Paths_ok h6) ck20)] [7, 27] [(7, i6 (w64 (n_1 + vx_6)))] ?_
  show acode _ _ _ _ _
  refine qGs [(1, hto (inc hx1 hb1))] [9] [(9, i6 ((j1 + 1 : Nat) : Int))] ?_
  exact qX (w64 (n_1 + vx_6)) hm
 rintro j1 n_1 hj1 hl1 hm
 rw [hK1] at hm
 refine A.seq ?_
 refine qDs [(2, hto (lnE eInt vx_5))] [] [(27, .bool (decide ((j1 : Int) < (vx_5.length:Int))))] ?_
 refine qF (ltF hl1) ?_
 refine A.exit ?_
 show acode _ _ _ _ _
 obtain ⟨J1, hJ1, hm⟩ := jn_some hm
 refine A.J (J := J1) (r := r) (fun n_2 => [(4, .ptr 5004 0), (5, i6 vx_3.1), (6, i6 vx_4.1), (7, i6 n_2)]) (fun n_2 => [(500001300, .slice 67 2 (ml eGRouter vx_2.1.Routers) (ml eGRouter vx_2.1.Routers).length true), (500001301, .slice 42 5 (ml eGLink vx_2.1.Links) (ml eGLink vx_2.1.Links).length true), (5004, .cells 28 [.own 500001300, .own 500001301])]) ?_ ?_
 ·refine qDs [] [8, 9, 27] [(41, .bool (decide (vx_3.1 = vx_4.1)))] ?_
  rcases cs_some hm with ⟨c1,hm⟩|⟨c1,hm⟩
  ·refine qT c1 ?_
   refine qGs [] [7, 41] [(7, i6 1)] ?_
   exact qX (1:Int) hm
  refine qF c1 ?_
  refine A.skip ?_
  exact qX n_1 hm
 rintro n_2 hm
 rw [hJ1] at hm
 obtain ⟨vx_7, h7, hm⟩ := bnd_some hm
 rcases cs_some hm with ⟨c2,hm⟩|⟨c2,hm⟩
 ·obtain ⟨vx_8, h8, hm⟩ := bnd_some hm
  refine qS [(3, hro (m_shortest_Paths_ok h7) ck20), (6, hto (bE c2)), (7, hro (m_law06_awake_ok h8) ck22)] [(2, .bool vx_8)] [] ?_
  cases hm
  exact A.ret qE
 refine qS [(3, hro (m_shortest_Paths_ok h7) ck20), (6, hto (bE c2))] [(2, .bool false)] [] ?_
 cases hm
 exact A.ret qE
end Go.Proofs.Ytflifgcoleknlaa
