/- The walks of functions of the program. No condition but those that stand in each. -/
import Derived.Test.YtflifgcoleknlaaDL0
import Derived.Test.YtflifgcoleknlaaVR
import Derived.Test.YtflifgcoleknlaaVL
import Derived.Test.YtflifgcoleknlaaV3
namespace Go.Proofs.Ytflifgcoleknlaa
open Go
set_option maxRecDepth 100000
set_option linter.all false
theorem m_law06_ShortestCosts_ok {t : List Int} {xa1 : Int} {y : Int} {r : Bool} (hm : m_law06_ShortestCosts t xa1 y = some r) : RO Try.prog 11 [] [lf eInt t, i6 xa1, i6 y] (.bool r) := by
 refine enterA Try.func11 rfl rfl ?_
 unfold m_law06_ShortestCosts at hm
 refine qS [] [(0, lf eInt t), (1, i6 xa1), (2, i6 y)] [] ?_
 obtain ⟨vx_1, h1, hm⟩ := bnd_some hm
 refine qD [(1, hdc [900000064] (m_mk_New_ok h1) ck12)] [0] [(7, .ptr 900000064 0)] [] [(900000064, .cells 64 (k3 vx_1))] ?_
 obtain ⟨vx_2, h2, hm⟩ := bnd_some hm
 refine qD [(1, hdc [500001300, 500001301] (m_mk_Tape_Topology_ok h2) ck13), (2, .al 11008)] [] [(8, .ptr 11008 0)] [900000064] [(900000064, .cells 64 (k3 vx_2.2)), (500001300, .slice 67 2 (ml eGRouter vx_2.1.Routers) 0 false), (500001301, .slice 42 5 (ml eGLink vx_2.1.Links) 0 false), (11008, .cells 28 [.own 500001300, .own 500001301])] ?_
 obtain ⟨vx_3, h3, hm⟩ := bnd_some hm
 obtain ⟨vx_4, h4, hm⟩ := bnd_some hm
 refine A.RS W0 [.fz [500001300, 500001301]] [(4, hdc [] (m_mk_Tape_Router_ok h3) ck14), (7, hdc [] (m_mk_Tape_Router_ok h4) ck14)] [(8, .ptr 11008 0), (9, .lst true (ml eInt ([xa1, y, vx_3.1, vx_4.1] : List Int)))] [(500001300, .slice 67 2 (ml eGRouter vx_2.1.Routers) (ml eGRouter vx_2.1.Routers).length true), (500001301, .slice 42 5 (ml eGLink vx_2.1.Links) (ml eGLink vx_2.1.Links).length true), (11008, .cells 28 [.own 500001300, .own 500001301])] (by kernel_rfl) ?_
 refine A.seq ?_
 refine qS [] [(8, .ptr 11008 0), (9, .lst true (ml eInt ([xa1, y, vx_3.1, vx_4.1] : List Int))), (10, i6 0)] [(500001300, .slice 67 2 (ml eGRouter vx_2.1.Routers) (ml eGRouter vx_2.1.Routers).length true), (500001301, .slice 42 5 (ml eGLink vx_2.1.Links) (ml eGLink vx_2.1.Links).length true), (11008, .cells 28 [.own 500001300, .own 500001301])] ?_
 refine A.block ?_
 refine A.bS 9 rfl fun hb1 => ?_
 obtain ⟨B1, K1, hB1, hK1, hm⟩ := forI_some hm
 refine A.lpI (l := ([xa1, y, vx_3.1, vx_4.1] : List Int)) (j0 := 0) (B := B1) (K := K1) hm (fun j1 => fun sg => match sg with | () => [(8, .ptr 11008 0), (9, .lst true (ml eInt ([xa1, y, vx_3.1, vx_4.1] : List Int))), (10, i6 (j1 : Int))]) (fun j1 => fun sg => match sg with | () => [(500001300, .slice 67 2 (ml eGRouter vx_2.1.Routers) (ml eGRouter vx_2.1.Routers).length true), (500001301, .slice 42 5 (ml eGLink vx_2.1.Links) (ml eGLink vx_2.1.Links).length true), (11008, .cells 28 [.own 500001300, .own 500001301])]) ?_ ?_ ?_
 ·exact qW
 ·rintro j1 e1 Z1 ⟨⟩ hj1 hx1 hm
  rw [hB1] at hm
  refine A.seq ?_
  refine qDs [(2, hto (lnE eInt ([xa1, y, vx_3.1, vx_4.1] : List Int)))] [] [(35, .bool (decide ((j1 : Int) < (([xa1, y, vx_3.1, vx_4.1] : List Int).length:Int))))] ?_
  refine qT (ltT hx1) ?_
  refine A.skip ?_
  show acode _ _ _ _ _
  refine A.seq ?_
  refine A.block ?_
  obtain ⟨vx_5, h5, hm⟩ := bnd_some hm
  obtain ⟨vx_6, h6, hm⟩ := bnd_some hm
  refine qDs [(3, hix (ix eInt (elO_nat hx1))), (5, hro (m_shortest_Distances_ok h5) ck38), (9, hix (ix eInt (elO_nat hx1))), (11, hro (m_ref06_Distances_ok h6) ck39)] [35] [(11, lf eGDistance vx_5), (12, lf eGDistance vx_6)] ?_
  refine A.seq ?_
  refine qDs [(1, hto (lnE eGDistance vx_5)), (3, hto (lnE eGDistance vx_6))] [] [(54, .bool (!decide ((vx_5.length:Int) = (vx_6.length:Int))))] ?_
  rcases cs_some hm with ⟨c1,hm⟩|⟨c1,hm⟩
  ·refine qT c1 ?_
   refine qS [] [(6, .bool false)] [] ?_
   cases hm
   exact A.ret qE
  refine qF c1 ?_
  refine A.skip ?_
  show acode _ _ _ _ _
  refine A.seq ?_
  refine qDs [] [54] [(13, i6 0)] ?_
  refine A.block ?_
  refine A.bS 11 rfl fun hb2 => ?_
  obtain ⟨B2, K2, hB2, hK2, hm⟩ := forI_some hm
  refine A.lpI (l := vx_5) (j0 := 0) (B := B2) (K := K2) hm (fun j2 => fun sg => match sg with | () => [(8, .ptr 11008 0), (9, .lst true (ml eInt ([xa1, y, vx_3.1, vx_4.1] : List Int))), (10, i6 (j1 : Int)), (11, lf eGDistance vx_5), (12, lf eGDistance vx_6), (13, i6 (j2 : Int))]) (fun j2 => fun sg => match sg with | () => [(500001300, .slice 67 2 (ml eGRouter vx_2.1.Routers) (ml eGRouter vx_2.1.Routers).length true), (500001301, .slice 42 5 (ml eGLink vx_2.1.Links) (ml eGLink vx_2.1.Links).length true), (11008, .cells 28 [.own 500001300, .own 500001301])]) ?_ ?_ ?_
  ·exact qW
  ·rintro j2 e2 Z2 ⟨⟩ hj2 hx2 hm
   rw [hB2] at hm
   refine A.seq ?_
   refine qDs [(2, hto (lnE eGDistance vx_5))] [] [(58, .bool (decide ((j2 : Int) < (vx_5.length:Int))))] ?_
   refine qT (ltT hx2) ?_
   refine A.skip ?_
   show acode _ _ _ _ _
   refine A.seq ?_
   refine A.block ?_
   obtain ⟨e_1, h7, hm⟩ := bnd_some hm
   refine qDs [(2, hix (ix eGDistance (elO_nat hx2))), (6, hix (ix eGDistance h7)), (8, .sq true 62 (.agg [i6 e2.Router, i6 e2.Cost]) (.agg [i6 e_1.Router, i6 e_1.Cost]) (!(eqGDistance e2 e_1)) (fun x y w => eq62_neq x y _ _ _ _ w))] [58] [(69, .bool (!(eqGDistance e2 e_1)))] ?_
   rcases cs_some hm with ⟨c2,hm⟩|⟨c2,hm⟩
   ·refine qT c2 ?_
    refine qS [] [(6, .bool false)] [] ?_
    cases hm
    exact A.ret qE
   refine qF c2 ?_
   refine A.skip ?_
   show acode _ _ _ _ _
   refine qGs [(1, hto (inc hx2 hb2))] [13, 69] [(13, i6 ((j2 + 1 : Nat) : Int))] ?_
   exact qX () hm
  rintro j2 ⟨⟩ hj2 hl2 hm
  rw [hK2] at hm
  refine A.seq ?_
  refine qDs [(2, hto (lnE eGDistance vx_5))] [] [(58, .bool (decide ((j2 : Int) < (vx_5.length:Int))))] ?_
  refine qF (ltF hl2) ?_
  refine A.exit ?_
  show acode _ _ _ _ _
  refine qDs [] [11, 12, 13, 58] [(14, i6 0)] ?_
  refine A.block ?_
  refine A.bS 9 rfl fun hb3 => ?_
  obtain ⟨B3, K3, hB3, hK3, hm⟩ := forI_some hm
  refine A.lpI (l := ([xa1, y, vx_3.1, vx_4.1] : List Int)) (j0 := 0) (B := B3) (K := K3) hm (fun j3 => fun sg => match sg with | () => [(8, .ptr 11008 0), (9, .lst true (ml eInt ([xa1, y, vx_3.1, vx_4.1] : List Int))), (10, i6 (j1 : Int)), (14, i6 (j3 : Int))]) (fun j3 => fun sg => match sg with | () => [(500001300, .slice 67 2 (ml eGRouter vx_2.1.Routers) (ml eGRouter vx_2.1.Routers).length true), (500001301, .slice 42 5 (ml eGLink vx_2.1.Links) (ml eGLink vx_2.1.Links).length true), (11008, .cells 28 [.own 500001300, .own 500001301])]) ?_ ?_ ?_
  ·exact qW
  ·rintro j3 e3 Z3 ⟨⟩ hj3 hx3 hm
   rw [hB3] at hm
   refine A.seq ?_
   refine qDs [(2, hto (lnE eInt ([xa1, y, vx_3.1, vx_4.1] : List Int)))] [] [(73, .bool (decide ((j3 : Int) < (([xa1, y, vx_3.1, vx_4.1] : List Int).length:Int))))] ?_
   refine qT (ltT hx3) ?_
   refine A.skip ?_
   show acode _ _ _ _ _
   refine A.seq ?_
   refine A.block ?_
   obtain ⟨vx_7, h8, hm⟩ := bnd_some hm
   refine qDs [(3, hix (ix eInt (elO_nat hx1))), (7, hix (ix eInt (elO_nat hx3))), (9, hro (m_shortest_Cost_ok h8) ck29)] [73] [(15, i6 vx_7.1), (16, .bool vx_7.2)] ?_
   obtain ⟨vx_8, h9, hm⟩ := bnd_some hm
   refine qDs [(3, hix (ix eInt (elO_nat hx1))), (7, hix (ix eInt (elO_nat hx3))), (9, hro (m_ref06_Cost_ok h9) ck40)] [] [(17, i6 vx_8.1), (18, .bool vx_8.2)] ?_
   refine A.mid [(8, .ptr 11008 0), (9, .lst true (ml eInt ([xa1, y, vx_3.1, vx_4.1] : List Int))), (10, i6 (j1 : Int)), (14, i6 (j3 : Int)), (109, .bool ((!decide (vx_7.1 = vx_8.1)) || (!(vx_7.2 == vx_8.2))))] [(500001300, .slice 67 2 (ml eGRouter vx_2.1.Routers) (ml eGRouter vx_2.1.Routers).length true), (500001301, .slice 42 5 (ml eGLink vx_2.1.Links) (ml eGLink vx_2.1.Links).length true), (11008, .cells 28 [.own 500001300, .own 500001301])] (fun hk => ?_) ?_
   ·rcases tf (!decide (vx_7.1 = vx_8.1)) with c3 | c3
    ·exact qS [(3, hto (bE c3)), (7, hto (orT (q := !(vx_7.2 == vx_8.2)) c3))] _ _ hk
    exact qS [(3, hto (bE c3)), (7, hto (orF (q := !(vx_7.2 == vx_8.2)) c3))] _ _ hk
   rcases cs_some hm with ⟨c4,hm⟩|⟨c4,hm⟩
   ·refine qT c4 ?_
    refine qS [] [(6, .bool false)] [] ?_
    cases hm
    exact A.ret qE
   refine qF c4 ?_
   refine A.skip ?_
   show acode _ _ _ _ _
   refine qGs [(1, hto (inc hx3 hb3))] [14, 109] [(14, i6 ((j3 + 1 : Nat) : Int))] ?_
   exact qX () hm
  rintro j3 ⟨⟩ hj3 hl3 hm
  rw [hK3] at hm
  refine A.seq ?_
  refine qDs [(2, hto (lnE eInt ([xa1, y, vx_3.1, vx_4.1] : List Int)))] [] [(73, .bool (decide ((j3 : Int) < (([xa1, y, vx_3.1, vx_4.1] : List Int).length:Int))))] ?_
  refine qF (ltF hl3) ?_
  refine A.exit ?_
  show acode _ _ _ _ _
  refine qGs [(1, hto (inc hx1 hb1))] [10, 14, 73] [(10, i6 ((j1 + 1 : Nat) : Int))] ?_
  exact qX () hm
 rintro j1 ⟨⟩ hj1 hl1 hm
 rw [hK1] at hm
 refine A.seq ?_
 refine qDs [(2, hto (lnE eInt ([xa1, y, vx_3.1, vx_4.1] : List Int)))] [] [(35, .bool (decide ((j1 : Int) < (([xa1, y, vx_3.1, vx_4.1] : List Int).length:Int))))] ?_
 refine qF (ltF hl1) ?_
 refine A.exit ?_
 show acode _ _ _ _ _
 obtain ⟨vx_9, h10, hm⟩ := bnd_some hm
 refine qS [(0, hro (m_law06_awake_ok h10) ck22)] [(6, .bool vx_9)] [] ?_
 cases hm
 exact A.ret qE
end Go.Proofs.Ytflifgcoleknlaa
