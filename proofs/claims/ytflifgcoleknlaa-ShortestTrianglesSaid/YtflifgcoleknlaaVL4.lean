/- The walks of functions of the program. No condition but those that stand in each. -/
import Derived.Test.YtflifgcoleknlaaDL4
import Derived.Test.YtflifgcoleknlaaVR
import Derived.Test.YtflifgcoleknlaaVL
import Derived.Test.YtflifgcoleknlaaV3
namespace Go.Proofs.Ytflifgcoleknlaa
open Go
set_option maxRecDepth 100000
set_option linter.all false
theorem m_law06_ShortestTriangles_ok {t : List Int} {r : Bool} (hm : m_law06_ShortestTriangles t = some r) : RO Try.prog 6 [] [lf eInt t] (.bool r) := by
 refine enterA Try.func6 rfl rfl ?_
 unfold m_law06_ShortestTriangles at hm
 refine qS [] [(0, lf eInt t)] [] ?_
 obtain ⟨vx_1, h1, hm⟩ := bnd_some hm
 refine qS [(1, hdc [900000064] (m_mk_New_ok h1) ck12)] [(3, .ptr 900000064 0)] [(900000064, .cells 64 (k3 vx_1))] ?_
 obtain ⟨vx_2, h2, hm⟩ := bnd_some hm
 refine qS [(1, hdc [500001300, 500001301] (m_mk_Tape_Topology_ok h2) ck13), (2, .al 6004)] [(4, .ptr 6004 0)] [(500001300, .slice 67 2 (ml eGRouter vx_2.1.Routers) 0 false), (500001301, .slice 42 5 (ml eGLink vx_2.1.Links) 0 false), (6004, .cells 28 [.own 500001300, .own 500001301])] ?_
 obtain ⟨vx_3, h3, hm⟩ := bnd_some hm
 refine A.RS W0 [.fz [500001300, 500001301]] [(1, hro (m_mk_Any_ok h3) ck28)] [(4, .ptr 6004 0), (5, lf eInt vx_3)] [(500001300, .slice 67 2 (ml eGRouter vx_2.1.Routers) (ml eGRouter vx_2.1.Routers).length true), (500001301, .slice 42 5 (ml eGLink vx_2.1.Links) (ml eGLink vx_2.1.Links).length true), (6004, .cells 28 [.own 500001300, .own 500001301])] (by kernel_rfl) ?_
 refine A.seq ?_
 refine qS [] [(4, .ptr 6004 0), (5, lf eInt vx_3), (6, i6 0)] [(500001300, .slice 67 2 (ml eGRouter vx_2.1.Routers) (ml eGRouter vx_2.1.Routers).length true), (500001301, .slice 42 5 (ml eGLink vx_2.1.Links) (ml eGLink vx_2.1.Links).length true), (6004, .cells 28 [.own 500001300, .own 500001301])] ?_
 refine A.block ?_
 refine A.bS 5 rfl fun hb1 => ?_
 obtain ⟨B1, K1, hB1, hK1, hm⟩ := forI_some hm
 refine A.lpI (l := vx_3) (j0 := 0) (B := B1) (K := K1) hm (fun j1 => fun sg => match sg with | () => [(4, .ptr 6004 0), (5, lf eInt vx_3), (6, i6 (j1 : Int))]) (fun j1 => fun sg => match sg with | () => [(500001300, .slice 67 2 (ml eGRouter vx_2.1.Routers) (ml eGRouter vx_2.1.Routers).length true), (500001301, .slice 42 5 (ml eGLink vx_2.1.Links) (ml eGLink vx_2.1.Links).length true), (6004, .cells 28 [.own 500001300, .own 500001301])]) ?_ ?_ ?_
 ·exact qW
 ·rintro j1 e1 Z1 ⟨⟩ hj1 hx1 hm
  rw [hB1] at hm
  refine A.seq ?_
  refine qDs [(2, hto (lnE eInt vx_3))] [] [(26, .bool (decide ((j1 : Int) < (vx_3.length:Int))))] ?_
  refine qT (ltT hx1) ?_
  refine A.skip ?_
  show acode _ _ _ _ _
  refine A.seq ?_
  refine A.block ?_
  refine qDs [] [26] [(7, i6 0)] ?_
  refine A.block ?_
  refine A.bS 5 rfl fun hb2 => ?_
  obtain ⟨B2, K2, hB2, hK2, hm⟩ := forI_some hm
  refine A.lpI (l := vx_3) (j0 := 0) (B := B2) (K := K2) hm (fun j2 => fun sg => match sg with | () => [(4, .ptr 6004 0), (5, lf eInt vx_3), (6, i6 (j1 : Int)), (7, i6 (j2 : Int))]) (fun j2 => fun sg => match sg with | () => [(500001300, .slice 67 2 (ml eGRouter vx_2.1.Routers) (ml eGRouter vx_2.1.Routers).length true), (500001301, .slice 42 5 (ml eGLink vx_2.1.Links) (ml eGLink vx_2.1.Links).length true), (6004, .cells 28 [.own 500001300, .own 500001301])]) ?_ ?_ ?_
  ·exact qW
  ·rintro j2 e2 Z2 ⟨⟩ hj2 hx2 hm
   rw [hB2] at hm
   refine A.seq ?_
   refine qDs [(2, hto (lnE eInt vx_3))] [] [(32, .bool (decide ((j2 : Int) < (vx_3.length:Int))))] ?_
   refine qT (ltT hx2) ?_
   refine A.skip ?_
   show acode _ _ _ _ _
   refine A.seq ?_
   refine A.block ?_
   obtain ⟨vx_4, h4, hm⟩ := bnd_some hm
   refine qDs [(3, hix (ix eInt (elO_nat hx1))), (7, hix (ix eInt (elO_nat hx2))), (9, hro (m_shortest_Cost_ok h4) ck29)] [32] [(8, i6 vx_4.1), (9, .bool vx_4.2)] ?_
   refine A.seq ?_
   obtain ⟨J1, hJ1, hm⟩ := jn_some hm
   refine A.J (J := J1) (r := r) (fun v_1 => [(4, .ptr 6004 0), (5, lf eInt vx_3), (6, i6 (j1 : Int)), (7, i6 (j2 : Int)), (8, i6 vx_4.1), (9, .bool vx_4.2), (80, .bool v_1)]) (fun v_1 => [(500001300, .slice 67 2 (ml eGRouter vx_2.1.Routers) (ml eGRouter vx_2.1.Routers).length true), (500001301, .slice 42 5 (ml eGLink vx_2.1.Links) (ml eGLink vx_2.1.Links).length true), (6004, .cells 28 [.own 500001300, .own 500001301])]) ?_ ?_
   ·obtain ⟨vx_5, h5, hm⟩ := bnd_some hm
    rcases cs_some hm with ⟨c1,hm⟩|⟨c1,hm⟩
    ·refine qGs [(4, hix (ix eInt (elO_nat hx1))), (8, hix (ix eInt (elO_nat hx2))), (10, hro (m_ref05_Connected_ok h5) ck30), (12, hto (bE c1))] [] [(80, .bool true)] ?_
     exact qX true hm
    rcases cs_some hm with ⟨c2,hm⟩|⟨c2,hm⟩
    ·rcases cs_some hm with ⟨c3,hm⟩|⟨c3,hm⟩
     ·refine qGs [(4, hix (ix eInt (elO_nat hx1))), (8, hix (ix eInt (elO_nat hx2))), (10, hro (m_ref05_Connected_ok h5) ck30), (12, hto (bE c1)), (16, hto (bE c2)), (21, hto (bE c3))] [] [(80, .bool true)] ?_
      exact qX true hm
     rcases cs_some hm with ⟨c4,hm⟩|⟨c4,hm⟩
     ·rcases cs_some hm with ⟨c5,hm⟩|⟨c5,hm⟩
      ·refine qGs [(4, hix (ix eInt (elO_nat hx1))), (8, hix (ix eInt (elO_nat hx2))), (10, hro (m_ref05_Connected_ok h5) ck30), (12, hto (bE c1)), (16, hto (bE c2)), (21, hto (bE c3)), (25, hto (bE c4)), (28, hto (bE c5))] [] [(80, .bool (decide (vx_4.1 < (1:Int))))] ?_
       exact qX (decide (vx_4.1 < (1:Int))) hm
      refine qGs [(4, hix (ix eInt (elO_nat hx1))), (8, hix (ix eInt (elO_nat hx2))), (10, hro (m_ref05_Connected_ok h5) ck30), (12, hto (bE c1)), (16, hto (bE c2)), (21, hto (bE c3)), (25, hto (bE c4)), (28, hto (bE c5))] [] [(80, .bool false)] ?_
      exact qX false hm
     refine qGs [(4, hix (ix eInt (elO_nat hx1))), (8, hix (ix eInt (elO_nat hx2))), (10, hro (m_ref05_Connected_ok h5) ck30), (12, hto (bE c1)), (16, hto (bE c2)), (21, hto (bE c3)), (25, hto (bE c4))] [] [(80, .bool false)] ?_
     exact qX false hm
    rcases cs_some hm with ⟨c6,hm⟩|⟨c6,hm⟩
    ·rcases cs_some hm with ⟨c7,hm⟩|⟨c7,hm⟩
     ·refine qGs [(4, hix (ix eInt (elO_nat hx1))), (8, hix (ix eInt (elO_nat hx2))), (10, hro (m_ref05_Connected_ok h5) ck30), (12, hto (bE c1)), (16, hto (bE c2)), (25, hto (bE c6)), (28, hto (bE c7))] [] [(80, .bool (decide (vx_4.1 < (1:Int))))] ?_
      exact qX (decide (vx_4.1 < (1:Int))) hm
     refine qGs [(4, hix (ix eInt (elO_nat hx1))), (8, hix (ix eInt (elO_nat hx2))), (10, hro (m_ref05_Connected_ok h5) ck30), (12, hto (bE c1)), (16, hto (bE c2)), (25, hto (bE c6)), (28, hto (bE c7))] [] [(80, .bool false)] ?_
     exact qX false hm
    refine qGs [(4, hix (ix eInt (elO_nat hx1))), (8, hix (ix eInt (elO_nat hx2))), (10, hro (m_ref05_Connected_ok h5) ck30), (12, hto (bE c1)), (16, hto (bE c2)), (25, hto (bE c6))] [] [(80, .bool false)] ?_
    exact qX false hm
   rintro v_1 hm
   rw [hJ1] at hm
   rcases cs_some hm with ⟨c8,hm⟩|⟨c8,hm⟩
   ·refine qT c8 ?_
    refine qS [] [(2, .bool false)] [] ?_
    cases hm
    exact A.ret qE
   refine qF c8 ?_
   refine A.skip ?_
   show acode _ _ _ _ _
   refine A.seq ?_
   obtain ⟨vx_6, h6, hm⟩ := bnd_some hm
   refine qDs [(3, hix (ix eInt (elO_nat hx1))), (7, hix (ix eInt (elO_nat hx2))), (9, hro (m_ref05_Price_ok h6) ck31)] [80] [(10, i6 vx_6.1), (11, .bool vx_6.2)] ?_
   refine A.mid [(4, .ptr 6004 0), (5, lf eInt vx_3), (6, i6 (j1 : Int)), (7, i6 (j2 : Int)), (8, i6 vx_4.1), (9, .bool vx_4.2), (99, .bool (vx_6.2 && (decide (vx_6.1 < vx_4.1))))] [(500001300, .slice 67 2 (ml eGRouter vx_2.1.Routers) (ml eGRouter vx_2.1.Routers).length true), (500001301, .slice 42 5 (ml eGLink vx_2.1.Links) (ml eGLink vx_2.1.Links).length true), (6004, .cells 28 [.own 500001300, .own 500001301])] (fun hk => ?_) ?_
   ·rcases tf vx_6.2 with c9 | c9
    ·exact qS [(1, hto (bE c9)), (5, hto (andT (q := decide (vx_6.1 < vx_4.1)) c9))] _ _ hk
    exact qS [(1, hto (bE c9)), (5, hto (andF (q := decide (vx_6.1 < vx_4.1)) c9))] _ _ hk
   rcases cs_some hm with ⟨c10,hm⟩|⟨c10,hm⟩
   ·refine qT c10 ?_
    refine qS [] [(2, .bool false)] [] ?_
    cases hm
    exact A.ret qE
   refine qF c10 ?_
   refine A.skip ?_
   show acode _ _ _ _ _
   refine qDs [] [99] [(12, i6 0)] ?_
   refine A.block ?_
   refine A.bS 5 rfl fun hb3 => ?_
   obtain ⟨B3, K3, hB3, hK3, hm⟩ := forI_some hm
   refine A.lpI (l := vx_3) (j0 := 0) (B := B3) (K := K3) hm (fun j3 => fun sg => match sg with | () => [(4, .ptr 6004 0), (5, lf eInt vx_3), (6, i6 (j1 : Int)), (7, i6 (j2 : Int)), (8, i6 vx_4.1), (9, .bool vx_4.2), (12, i6 (j3 : Int))]) (fun j3 => fun sg => match sg with | () => [(500001300, .slice 67 2 (ml eGRouter vx_2.1.Routers) (ml eGRouter vx_2.1.Routers).length true), (500001301, .slice 42 5 (ml eGLink vx_2.1.Links) (ml eGLink vx_2.1.Links).length true), (6004, .cells 28 [.own 500001300, .own 500001301])]) ?_ ?_ ?_
   ·exact qW
   ·rintro j3 e3 Z3 ⟨⟩ hj3 hx3 hm
    rw [hB3] at hm
    refine A.seq ?_
    refine qDs [(2, hto (lnE eInt vx_3))] [] [(103, .bool (decide ((j3 : Int) < (vx_3.length:Int))))] ?_
    refine qT (ltT hx3) ?_
    refine A.skip ?_
    show acode _ _ _ _ _
    refine A.seq ?_
    refine A.block ?_
    obtain ⟨vx_7, h7, hm⟩ := bnd_some hm
    refine qDs [(3, hix (ix eInt (elO_nat hx1))), (7, hix (ix eInt (elO_nat hx3))), (9, hro (m_shortest_Cost_ok h7) ck29)] [103] [(13, i6 vx_7.1), (14, .bool vx_7.2)] ?_
    obtain ⟨vx_8, h8, hm⟩ := bnd_some hm
    refine qDs [(3, hix (ix eInt (elO_nat hx3))), (7, hix (ix eInt (elO_nat hx2))), (9, hro (m_shortest_Cost_ok h8) ck29)] [] [(15, i6 vx_8.1), (16, .bool vx_8.2)] ?_
    refine A.mid [(4, .ptr 6004 0), (5, lf eInt vx_3), (6, i6 (j1 : Int)), (7, i6 (j2 : Int)), (8, i6 vx_4.1), (9, .bool vx_4.2), (12, i6 (j3 : Int)), (146, .bool (vx_7.2 && (vx_8.2 && ((!vx_4.2) || (decide (w64 (vx_7.1 + vx_8.1) < vx_4.1))))))] [(500001300, .slice 67 2 (ml eGRouter vx_2.1.Routers) (ml eGRouter vx_2.1.Routers).length true), (500001301, .slice 42 5 (ml eGLink vx_2.1.Links) (ml eGLink vx_2.1.Links).length true), (6004, .cells 28 [.own 500001300, .own 500001301])] (fun hk => ?_) ?_
    ·rcases tf vx_7.2 with c11 | c11
     ·rcases tf vx_8.2 with c12 | c12
      ·rcases tf (!vx_4.2) with c13 | c13
       ·exact qS [(1, hto (bE c11)), (4, hto (bE c12)), (7, hto (bE c13)), (14, hto (((orT (q := decide (w64 (vx_7.1 + vx_8.1) < vx_4.1)) c13).trans (andT (q := ((!vx_4.2) || (decide (w64 (vx_7.1 + vx_8.1) < vx_4.1)))) c12)).trans (andT (q := (vx_8.2 && ((!vx_4.2) || (decide (w64 (vx_7.1 + vx_8.1) < vx_4.1))))) c11)))] _ _ hk
       exact qS [(1, hto (bE c11)), (4, hto (bE c12)), (7, hto (bE c13)), (14, hto (((orF (q := decide (w64 (vx_7.1 + vx_8.1) < vx_4.1)) c13).trans (andT (q := ((!vx_4.2) || (decide (w64 (vx_7.1 + vx_8.1) < vx_4.1)))) c12)).trans (andT (q := (vx_8.2 && ((!vx_4.2) || (decide (w64 (vx_7.1 + vx_8.1) < vx_4.1))))) c11)))] _ _ hk
      exact qS [(1, hto (bE c11)), (4, hto (bE c12)), (14, hto ((andF (q := ((!vx_4.2) || (decide (w64 (vx_7.1 + vx_8.1) < vx_4.1)))) c12).trans (andT (q := (vx_8.2 && ((!vx_4.2) || (decide (w64 (vx_7.1 + vx_8.1) < vx_4.1))))) c11)))] _ _ hk
     exact qS [(1, hto (bE c11)), (14, hto (andF (q := (vx_8.2 && ((!vx_4.2) || (decide (w64 (vx_7.1 + vx_8.1) < vx_4.1))))) c11))] _ _ hk
    rcases cs_some hm with ⟨c14,hm⟩|⟨c14,hm⟩
    ·refine qT c14 ?_
     refine qS [] [(2, .bool false)] [] ?_
     cases hm
     exact A.ret qE
    refine qF c14 ?_
    refine A.skip ?_
    show acode _ _ _ _ _
    refine qGs [(1, hto (inc hx3 hb3))] [12, 146] [(12, i6 ((j3 + 1 : Nat) : Int))] ?_
    exact qX () hm
   rintro j3 ⟨⟩ hj3 hl3 hm
   rw [hK3] at hm
   refine A.seq ?_
   refine qDs [(2, hto (lnE eInt vx_3))] [] [(103, .bool (decide ((j3 : Int) < (vx_3.length:Int))))] ?_
   refine qF (ltF hl3) ?_
   refine A.exit ?_
   show acode _ _ _ _ _
   refine qGs [(1, hto (inc hx2 hb2))] [7, 8, 9, 12, 103] [(7, i6 ((j2 + 1 : Nat) : Int))] ?_
   exact qX () hm
  rintro j2 ⟨⟩ hj2 hl2 hm
  rw [hK2] at hm
  refine A.seq ?_
  refine qDs [(2, hto (lnE eInt vx_3))] [] [(32, .bool (decide ((j2 : Int) < (vx_3.length:Int))))] ?_
  refine qF (ltF hl2) ?_
  refine A.exit ?_
  show acode _ _ _ _ _
  refine qGs [(1, hto (inc hx1 hb1))] [6, 7, 32] [(6, i6 ((j1 + 1 : Nat) : Int))] ?_
  exact qX () hm
 rintro j1 ⟨⟩ hj1 hl1 hm
 rw [hK1] at hm
 refine A.seq ?_
 refine qDs [(2, hto (lnE eInt vx_3))] [] [(26, .bool (decide ((j1 : Int) < (vx_3.length:Int))))] ?_
 refine qF (ltF hl1) ?_
 refine A.exit ?_
 show acode _ _ _ _ _
 obtain ⟨vx_9, h9, hm⟩ := bnd_some hm
 refine qS [(0, hro (m_law06_awake_ok h9) ck22)] [(2, .bool vx_9)] [] ?_
 cases hm
 exact A.ret qE
end Go.Proofs.Ytflifgcoleknlaa
