/- The walks of functions of the program. No condition but those that stand in each. -/
import Derived.Test.YtflifgcoleknlaaDL
import Derived.Test.YtflifgcoleknlaaV6
import Derived.Test.YtflifgcoleknlaaV2
namespace Go.Proofs.Ytflifgcoleknlaa
open Go
set_option maxRecDepth 100000
set_option linter.all false
theorem m_law06_awake_ok  {r : Bool} (hm : m_law06_awake = some r) : RO Try.prog 22 [] [] (.bool r) := by
 refine enterA Try.func22 rfl rfl ?_
 unfold m_law06_awake at hm
 refine qS [] [] [] ?_
 refine qS [(11, .al 22001)] [(1, .ptr 22001 0)] [(22001, .cells 28 [.lst true (ml eGRouter ([(GRouter.mk (1:Int) false), (GRouter.mk (2:Int) false), (GRouter.mk (3:Int) false), (GRouter.mk (4:Int) false)] : List GRouter)), .lst true (ml eGLink ([(GLink.mk (1:Int) (2:Int) (1:Int) (1:Int) (0:Int)), (GLink.mk (1:Int) (3:Int) (1:Int) (1:Int) (0:Int)), (GLink.mk (2:Int) (4:Int) (1:Int) (1:Int) (0:Int)), (GLink.mk (3:Int) (4:Int) (1:Int) (1:Int) (0:Int))] : List GLink))])] ?_
 obtain ⟨vx_1, h1, hm⟩ := bnd_some hm
 obtain ⟨vx_2, h2, hm⟩ := bnd_some hm
 rcases cs_some hm with ⟨c1,hm⟩|⟨c1,hm⟩
 ·obtain ⟨vx_3, h3, hm⟩ := bnd_some hm
  obtain ⟨vx_4, h4, hm⟩ := bnd_some hm
  rcases cs_some hm with ⟨c2,hm⟩|⟨c2,hm⟩
  ·obtain ⟨vx_5, h5, hm⟩ := bnd_some hm
   rcases cs_some hm with ⟨c3,hm⟩|⟨c3,hm⟩
   ·obtain ⟨vx_6, h6, hm⟩ := bnd_some hm
    rcases cs_some hm with ⟨c4,hm⟩|⟨c4,hm⟩
    ·obtain ⟨vx_7, h7, hm⟩ := bnd_some hm
     refine qS [(1, hro (m_shortest_Next_ok h1) ck16), (3, hro (m_ref04_Ints_ok h2) ck15), (4, hto (bE c1)), (6, hro (m_shortest_Route_ok h3) ck18), (8, hro (m_ref04_Ints_ok h4) ck15), (10, hto (bE c2)), (12, hro (m_shortest_Paths_ok h5) ck20), (15, hto (bE c3)), (18, hro (m_shortest_Uses_ok h6) ck24), (20, hto (bE c4)), (22, hro (m_shortest_Avoids_ok h7) ck26)] [(0, .bool (!vx_7))] [] ?_
     cases hm
     exact A.ret qE
    refine qS [(1, hro (m_shortest_Next_ok h1) ck16), (3, hro (m_ref04_Ints_ok h2) ck15), (4, hto (bE c1)), (6, hro (m_shortest_Route_ok h3) ck18), (8, hro (m_ref04_Ints_ok h4) ck15), (10, hto (bE c2)), (12, hro (m_shortest_Paths_ok h5) ck20), (15, hto (bE c3)), (18, hro (m_shortest_Uses_ok h6) ck24), (20, hto (bE c4))] [(0, .bool false)] [] ?_
    cases hm
    exact A.ret qE
   refine qS [(1, hro (m_shortest_Next_ok h1) ck16), (3, hro (m_ref04_Ints_ok h2) ck15), (4, hto (bE c1)), (6, hro (m_shortest_Route_ok h3) ck18), (8, hro (m_ref04_Ints_ok h4) ck15), (10, hto (bE c2)), (12, hro (m_shortest_Paths_ok h5) ck20), (15, hto (bE c3))] [(0, .bool false)] [] ?_
   cases hm
   exact A.ret qE
  refine qS [(1, hro (m_shortest_Next_ok h1) ck16), (3, hro (m_ref04_Ints_ok h2) ck15), (4, hto (bE c1)), (6, hro (m_shortest_Route_ok h3) ck18), (8, hro (m_ref04_Ints_ok h4) ck15), (10, hto (bE c2))] [(0, .bool false)] [] ?_
  cases hm
  exact A.ret qE
 refine qS [(1, hro (m_shortest_Next_ok h1) ck16), (3, hro (m_ref04_Ints_ok h2) ck15), (4, hto (bE c1))] [(0, .bool false)] [] ?_
 cases hm
 exact A.ret qE
theorem m_law06_length_ok {g : GTopology} {froma1 : Int} {route : List Int} {r : Int} (hm : m_law06_length g froma1 route = some r) : RO Try.prog 32 [] [.agg (k2 g), i6 froma1, lf eInt route] (i6 r) := by
 refine enterA Try.func32 rfl rfl ?_
 unfold m_law06_length at hm
 refine qS [(0, .al 32003)] [(1, i6 froma1), (2, lf eInt route), (3, .ptr 32003 0)] [(32003, .cells 28 (k2 g))] ?_
 refine qDs [] [] [(7, i6 0)] ?_
 refine A.seq ?_
 refine qDs [] [] [(8, i6 0)] ?_
 refine A.block ?_
 refine A.bS 2 rfl fun hb1 => ?_
 obtain ⟨B1, K1, hB1, hK1, hm⟩ := forI_some hm
 refine A.lpI (l := route) (j0 := 0) (B := B1) (K := K1) hm (fun j1 => fun sg => match sg with | (vfrom_1, n_1) => [(1, i6 vfrom_1), (2, lf eInt route), (3, .ptr 32003 0), (7, i6 n_1), (8, i6 (j1 : Int))]) (fun j1 => fun sg => match sg with | (vfrom_1, n_1) => [(32003, .cells 28 (k2 g))]) ?_ ?_ ?_
 ·exact qW
 ·rintro j1 e1 Z1 ⟨vfrom_1, n_1⟩ hj1 hx1 hm
  rw [hB1] at hm
  refine A.seq ?_
  refine qDs [(2, hto (lnE eInt route))] [] [(14, .bool (decide ((j1 : Int) < (route.length:Int))))] ?_
  refine qT (ltT hx1) ?_
  refine A.skip ?_
  show acode _ _ _ _ _
  refine A.seq ?_
  refine A.block ?_
  obtain ⟨vx_1, h1, hm⟩ := bnd_some hm
  refine qDs [(4, hix (ix eInt (elO_nat hx1))), (6, hro (m_ref05_Price_ok h1) ck31)] [1, 14] [(9, i6 vx_1.1), (10, .bool vx_1.2)] ?_
  refine A.seq ?_
  refine qDs [] [10] [(28, .bool (!vx_1.2))] ?_
  rcases cs_some hm with ⟨c1,hm⟩|⟨c1,hm⟩
  ·refine qT c1 ?_
   refine qS [] [(6, i6 (-1))] [] ?_
   cases hm
   exact A.ret qE
  refine qF c1 ?_
  refine A.skip ?_
  show acode _ _ _ _ _
  refine qDs [] [7, 9, 28] [(7, i6 (w64 (n_1 + vx_1.1)))] ?_
  refine qGs [(2, hix (ix eInt (elO_nat hx1)))] [] [(1, i6 e1)] ?_
  show acode _ _ _ _ _
  refine qGs [(1, hto (inc hx1 hb1))] [8] [(8, i6 ((j1 + 1 : Nat) : Int))] ?_
  exact qX (e1, w64 (n_1 + vx_1.1)) hm
 rintro j1 ⟨vfrom_1, n_1⟩ hj1 hl1 hm
 rw [hK1] at hm
 refine A.seq ?_
 refine qDs [(2, hto (lnE eInt route))] [] [(14, .bool (decide ((j1 : Int) < (route.length:Int))))] ?_
 refine qF (ltF hl1) ?_
 refine A.exit ?_
 show acode _ _ _ _ _
 refine qS [] [(6, i6 n_1)] [] ?_
 cases hm
 exact A.ret qE
end Go.Proofs.Ytflifgcoleknlaa
