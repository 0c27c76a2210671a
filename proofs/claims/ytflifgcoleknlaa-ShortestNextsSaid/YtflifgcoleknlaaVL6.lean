/- The walks of functions of the program. No condition but those that stand in each. -/
import Derived.Test.YtflifgcoleknlaaDL6
import Derived.Test.YtflifgcoleknlaaVR
import Derived.Test.YtflifgcoleknlaaVL
import Derived.Test.YtflifgcoleknlaaV3
namespace Go.Proofs.Ytflifgcoleknlaa
open Go
set_option maxRecDepth 100000
set_option linter.all false
theorem m_law06_ShortestNexts_ok {t : List Int} {r : Bool} (hm : m_law06_ShortestNexts t = some r) : RO Try.prog 8 [] [lf eInt t] (.bool r) := by
 refine enterA Try.func8 rfl rfl ?_
 unfold m_law06_ShortestNexts at hm
 refine qS [] [(0, lf eInt t)] [] ?_
 obtain ⟨vx_1, h1, hm⟩ := bnd_some hm
 refine qS [(1, hdc [900000064] (m_mk_New_ok h1) ck12)] [(3, .ptr 900000064 0)] [(900000064, .cells 64 (k3 vx_1))] ?_
 obtain ⟨vx_2, h2, hm⟩ := bnd_some hm
 refine qD [(1, hdc [500001300, 500001301] (m_mk_Tape_Topology_ok h2) ck13), (2, .al 8004)] [] [(4, .ptr 8004 0)] [900000064] [(900000064, .cells 64 (k3 vx_2.2)), (500001300, .slice 67 2 (ml eGRouter vx_2.1.Routers) 0 false), (500001301, .slice 42 5 (ml eGLink vx_2.1.Links) 0 false), (8004, .cells 28 [.own 500001300, .own 500001301])] ?_
 obtain ⟨vx_3, h3, hm⟩ := bnd_some hm
 obtain ⟨vx_4, h4, hm⟩ := bnd_some hm
 refine A.RS W0 [.fz [500001300, 500001301]] [(2, hdc [] (m_mk_Tape_Router_ok h3) ck14), (5, hdc [] (m_mk_Tape_Router_ok h4) ck14)] [(4, .ptr 8004 0), (5, i6 vx_3.1), (6, i6 vx_4.1)] [(500001300, .slice 67 2 (ml eGRouter vx_2.1.Routers) (ml eGRouter vx_2.1.Routers).length true), (500001301, .slice 42 5 (ml eGLink vx_2.1.Links) (ml eGLink vx_2.1.Links).length true), (8004, .cells 28 [.own 500001300, .own 500001301])] (by kernel_rfl) ?_
 obtain ⟨vx_5, h5, hm⟩ := bnd_some hm
 refine qS [(3, hro (m_shortest_Cost_ok h5) ck29)] [(4, .ptr 8004 0), (5, i6 vx_3.1), (6, i6 vx_4.1), (7, i6 vx_5.1), (8, .bool vx_5.2)] [(500001300, .slice 67 2 (ml eGRouter vx_2.1.Routers) (ml eGRouter vx_2.1.Routers).length true), (500001301, .slice 42 5 (ml eGLink vx_2.1.Links) (ml eGLink vx_2.1.Links).length true), (8004, .cells 28 [.own 500001300, .own 500001301])] ?_
 obtain ⟨vx_6, h6, hm⟩ := bnd_some hm
 refine qDs [(3, hro (m_shortest_Next_ok h6) ck16)] [] [(9, lf eInt vx_6)] ?_
 obtain ⟨vx_7, h7, hm⟩ := bnd_some hm
 refine qDs [(2, hro (m_ref05_Near_ok h7) ck33)] [] [(10, lf eInt vx_7)] ?_
 refine A.seq ?_
 refine qDs [] [] [(11, i6 0)] ?_
 refine A.block ?_
 refine A.bS 10 rfl fun hb1 => ?_
 obtain ⟨B1, K1, hB1, hK1, hm⟩ := forI_some hm
 refine A.lpI (l := vx_7) (j0 := 0) (B := B1) (K := K1) hm (fun j1 => fun sg => match sg with | () => [(4, .ptr 8004 0), (5, i6 vx_3.1), (6, i6 vx_4.1), (7, i6 vx_5.1), (8, .bool vx_5.2), (9, lf eInt vx_6), (10, lf eInt vx_7), (11, i6 (j1 : Int))]) (fun j1 => fun sg => match sg with | () => [(500001300, .slice 67 2 (ml eGRouter vx_2.1.Routers) (ml eGRouter vx_2.1.Routers).length true), (500001301, .slice 42 5 (ml eGLink vx_2.1.Links) (ml eGLink vx_2.1.Links).length true), (8004, .cells 28 [.own 500001300, .own 500001301])]) ?_ ?_ ?_
 ·exact qW
 ·rintro j1 e1 Z1 ⟨⟩ hj1 hx1 hm
  rw [hB1] at hm
  refine A.seq ?_
  refine qDs [(2, hto (lnE eInt vx_7))] [] [(43, .bool (decide ((j1 : Int) < (vx_7.length:Int))))] ?_
  refine qT (ltT hx1) ?_
  refine A.skip ?_
  show acode _ _ _ _ _
  refine A.seq ?_
  refine A.block ?_
  obtain ⟨vx_8, h8, hm⟩ := bnd_some hm
  refine qDs [(4, hix (ix eInt (elO_nat hx1))), (6, hro (m_ref05_Price_ok h8) ck31)] [43] [(12, i6 vx_8.1)] ?_
  obtain ⟨vx_9, h9, hm⟩ := bnd_some hm
  refine qDs [(3, hix (ix eInt (elO_nat hx1))), (6, hro (m_shortest_Cost_ok h9) ck29)] [] [(14, i6 vx_9.1), (15, .bool vx_9.2)] ?_
  refine A.seq ?_
  obtain ⟨J1, hJ1, hm⟩ := jn_some hm
  refine A.J (J := J1) (r := r) (fun v_1 => [(4, .ptr 8004 0), (5, i6 vx_3.1), (6, i6 vx_4.1), (7, i6 vx_5.1), (8, .bool vx_5.2), (9, lf eInt vx_6), (10, lf eInt vx_7), (11, i6 (j1 : Int)), (88, .bool v_1)]) (fun v_1 => [(500001300, .slice 67 2 (ml eGRouter vx_2.1.Routers) (ml eGRouter vx_2.1.Routers).length true), (500001301, .slice 42 5 (ml eGLink vx_2.1.Links) (ml eGLink vx_2.1.Links).length true), (8004, .cells 28 [.own 500001300, .own 500001301])]) ?_ ?_
  ·obtain ⟨vx_10, h10, hm⟩ := bnd_some hm
   rcases cs_some hm with ⟨c1,hm⟩|⟨c1,hm⟩
   ·rcases cs_some hm with ⟨c2,hm⟩|⟨c2,hm⟩
    ·rcases cs_some hm with ⟨c3,hm⟩|⟨c3,hm⟩
     ·refine qGs [(3, hix (ix eInt (elO_nat hx1))), (5, hro (m_ref04_Has_ok h10) ck34), (7, hto (bE c1)), (10, hto (bE c2)), (15, hto (bE c3))] [12, 14, 15] [(88, .bool (!(vx_10 == (decide (w64 (vx_8.1 + vx_9.1) = vx_5.1)))))] ?_
      exact qX (!(vx_10 == (decide (w64 (vx_8.1 + vx_9.1) = vx_5.1)))) hm
     refine qGs [(3, hix (ix eInt (elO_nat hx1))), (5, hro (m_ref04_Has_ok h10) ck34), (7, hto (bE c1)), (10, hto (bE c2)), (15, hto (bE c3))] [12, 14, 15] [(88, .bool (!(vx_10 == false)))] ?_
     exact qX (!(vx_10 == false)) hm
    refine qGs [(3, hix (ix eInt (elO_nat hx1))), (5, hro (m_ref04_Has_ok h10) ck34), (7, hto (bE c1)), (10, hto (bE c2))] [12, 14, 15] [(88, .bool (!(vx_10 == false)))] ?_
    exact qX (!(vx_10 == false)) hm
   refine qGs [(3, hix (ix eInt (elO_nat hx1))), (5, hro (m_ref04_Has_ok h10) ck34), (7, hto (bE c1))] [12, 14, 15] [(88, .bool (!(vx_10 == false)))] ?_
   exact qX (!(vx_10 == false)) hm
  rintro v_1 hm
  rw [hJ1] at hm
  rcases cs_some hm with ⟨c4,hm⟩|⟨c4,hm⟩
  ·refine qT c4 ?_
   refine qS [] [(2, .bool false)] [] ?_
   cases hm
   exact A.ret qE
  refine qF c4 ?_
  refine A.skip ?_
  show acode _ _ _ _ _
  obtain ⟨J2, hJ2, hm⟩ := jn_some hm
  refine A.J (J := J2) (r := r) (fun v_2 => [(4, .ptr 8004 0), (5, i6 vx_3.1), (6, i6 vx_4.1), (7, i6 vx_5.1), (8, .bool vx_5.2), (9, lf eInt vx_6), (10, lf eInt vx_7), (11, i6 (j1 : Int)), (105, .bool v_2)]) (fun v_2 => [(500001300, .slice 67 2 (ml eGRouter vx_2.1.Routers) (ml eGRouter vx_2.1.Routers).length true), (500001301, .slice 42 5 (ml eGLink vx_2.1.Links) (ml eGLink vx_2.1.Links).length true), (8004, .cells 28 [.own 500001300, .own 500001301])]) ?_ ?_
  ·obtain ⟨vx_11, h11, hm⟩ := bnd_some hm
   rcases cs_some hm with ⟨c5,hm⟩|⟨c5,hm⟩
   ·obtain ⟨vx_12, h12, hm⟩ := bnd_some hm
    refine qGs [(3, hix (ix eInt (elO_nat hx1))), (5, hro (m_ref04_Has_ok h11) ck34), (6, hto (bE c5)), (10, hix (ix eInt (elO_nat hx1))), (14, hro (m_shortest_Avoids_ok h12) ck26)] [88] [(105, .bool (!vx_12))] ?_
    exact qX (!vx_12) hm
   refine qGs [(3, hix (ix eInt (elO_nat hx1))), (5, hro (m_ref04_Has_ok h11) ck34), (6, hto (bE c5))] [88] [(105, .bool false)] ?_
   exact qX false hm
  rintro v_2 hm
  rw [hJ2] at hm
  rcases cs_some hm with ⟨c6,hm⟩|⟨c6,hm⟩
  ·refine qT c6 ?_
   refine qS [] [(2, .bool false)] [] ?_
   cases hm
   exact A.ret qE
  refine qF c6 ?_
  refine A.skip ?_
  show acode _ _ _ _ _
  refine qGs [(1, hto (inc hx1 hb1))] [11, 105] [(11, i6 ((j1 + 1 : Nat) : Int))] ?_
  exact qX () hm
 rintro j1 ⟨⟩ hj1 hl1 hm
 rw [hK1] at hm
 refine A.seq ?_
 refine qDs [(2, hto (lnE eInt vx_7))] [] [(43, .bool (decide ((j1 : Int) < (vx_7.length:Int))))] ?_
 refine qF (ltF hl1) ?_
 refine A.exit ?_
 show acode _ _ _ _ _
 rcases cs_some hm with ⟨c7,hm⟩|⟨c7,hm⟩
 ·obtain ⟨vx_13, h13, hm⟩ := bnd_some hm
  refine qS [(1, hto (lnE eInt vx_6)), (3, hto (lnE eInt vx_7)), (5, hto (bE c7)), (6, hro (m_law06_awake_ok h13) ck22)] [(2, .bool vx_13)] [] ?_
  cases hm
  exact A.ret qE
 refine qS [(1, hto (lnE eInt vx_6)), (3, hto (lnE eInt vx_7)), (5, hto (bE c7))] [(2, .bool false)] [] ?_
 cases hm
 exact A.ret qE
end Go.Proofs.Ytflifgcoleknlaa
