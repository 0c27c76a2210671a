/- The walks of functions of the program. No condition but those that stand in each. -/
import Derived.Test.YtggbjbcgfelgiaaDL7
import Derived.Test.YtggbjbcgfelgiaaV2
import Derived.Test.YtggbjbcgfelgiaaV3
import Derived.Test.YtggbjbcgfelgiaaVL
namespace Go.Proofs.Ytggbjbcgfelgiaa
open Go
set_option maxRecDepth 100000
set_option linter.all false
theorem m_law05_TopologyDivides_ok {t : List Int} {r : Bool} (hm : m_law05_TopologyDivides t = some r) : RO Try.prog 7 [] [.lst false (ml eInt t)] (.bool r) := by
  refine enterA Try.func7 rfl rfl ?_
  unfold m_law05_TopologyDivides at hm
  refine A.RS W0 [] [] [(0, .lst false (ml eInt t))] [] (by kernel_rfl) ?_
  obtain ⟨vx_1, h1, hm⟩ := bnd_some hm
  refine A.RS W0 [] [(1, hdc [900000079] (m_mk_New_ok h1) ck11)] [(3, .ptr 900000079 0)] [(900000079, .cells 79 [.lst false (ml eInt vx_1.L), .int .i64 vx_1.At])] (by kernel_rfl) ?_
  obtain ⟨vx_2, h2, hm⟩ := bnd_some hm
  refine A.RS W0 [] [(1, hdc [500001200, 500001201] (m_mk_Tape_Topology_ok h2) ck12), (2, .al 7004)] [(3, .ptr 900000079 0), (4, .ptr 7004 0)] [(900000079, .cells 79 [.lst false (ml eInt vx_2.2.L), .int .i64 vx_2.2.At]), (500001200, .slice 55 2 (ml eGRouter vx_2.1.Routers) 0 false), (500001201, .slice 50 5 (ml eGLink vx_2.1.Links) 0 false), (7004, .cells 26 [.own 500001200, .own 500001201])] (by kernel_rfl) ?_
  obtain ⟨vx_3, h3, hm⟩ := bnd_some hm
  obtain ⟨vx_4, h4, hm⟩ := bnd_some hm
  refine A.RS W0 [.fz [500001200, 500001201]] [(3, hdc [] (m_mk_Tape_Failures_ok h3) ck18), (4, hro (m_ref05_Without_ok h4) ck21)] [(4, .ptr 7004 0)] [(7004, .cells 26 [.lst false (ml eGRouter vx_4.Routers), .lst false (ml eGLink vx_4.Links)])] (by kernel_rfl) ?_
  obtain ⟨vx_5, h5, hm⟩ := bnd_some hm
  refine A.RS W0 [] [(1, hro (m_topology_Components_ok h5) ck28)] [(4, .ptr 7004 0), (5, .lst false (ml (eL eInt) vx_5))] [(7004, .cells 26 [.lst false (ml eGRouter vx_4.Routers), .lst false (ml eGLink vx_4.Links)])] (by kernel_rfl) ?_
  refine A.RS W0 [] [(0, .al 7025)] [(4, .ptr 7004 0), (5, .lst false (ml (eL eInt) vx_5)), (6, .mapv 7025)] [(7004, .cells 26 [.lst false (ml eGRouter vx_4.Routers), .lst false (ml eGLink vx_4.Links)]), (7025, .map 3 3 (encM .i64 (vI .i64) []))] (by kernel_rfl) ?_
  refine A.RS W0 [] [] [(4, .ptr 7004 0), (5, .lst false (ml (eL eInt) vx_5)), (6, .mapv 7025), (7, .int .i64 (0:Int))] [(7004, .cells 26 [.lst false (ml eGRouter vx_4.Routers), .lst false (ml eGLink vx_4.Links)]), (7025, .map 3 3 (encM .i64 (vI .i64) []))] (by kernel_rfl) ?_
  refine A.seq ?_
  refine A.RS W0 [] [] [(4, .ptr 7004 0), (5, .lst false (ml (eL eInt) vx_5)), (6, .mapv 7025), (7, .int .i64 (0:Int)), (8, .int .i64 (0:Int))] [(7004, .cells 26 [.lst false (ml eGRouter vx_4.Routers), .lst false (ml eGLink vx_4.Links)]), (7025, .map 3 3 (encM .i64 (vI .i64) []))] (by kernel_rfl) ?_
  refine A.block ?_
  refine A.bS 5 rfl fun hb1 => ?_
  obtain ⟨B1, K1, hB1, hK1, hm⟩ := forI_some hm
  refine A.lpI (l := vx_5) (j0 := 0) (B := B1) (K := K1) hm (fun j1 => fun sg => match sg with | (n_1, m_1) => [(4, .ptr 7004 0), (5, .lst false (ml (eL eInt) vx_5)), (6, .mapv 7025), (7, .int .i64 n_1), (8, .int .i64 (j1 : Int))]) (fun j1 => fun sg => match sg with | (n_1, m_1) => [(7004, .cells 26 [.lst false (ml eGRouter vx_4.Routers), .lst false (ml eGLink vx_4.Links)]), (7025, .map 3 3 (encM .i64 (vI .i64) m_1))]) ?_ ?_ ?_
  · exact Weak.go [] [] (by kernel_rfl)
  · skip
    rintro j1 e1 Z1 ⟨n_1, m_1⟩ hj1 hx1 hm
    rw [hB1] at hm
    refine A.seq ?_
    refine A.RS W0 [] [(2, hto (lnE (eL eInt) vx_5))] [(4, .ptr 7004 0), (5, .lst false (ml (eL eInt) vx_5)), (6, .mapv 7025), (7, .int .i64 n_1), (8, .int .i64 (j1 : Int)), (29, .bool (decide ((j1 : Int) < (vx_5.length:Int))))] [(7004, .cells 26 [.lst false (ml eGRouter vx_4.Routers), .lst false (ml eGLink vx_4.Links)]), (7025, .map 3 3 (encM .i64 (vI .i64) m_1))] (by kernel_rfl) ?_
    refine A.cT rfl (ltT hx1) ?_
    refine A.skip ?_
    show acode _ _ _ _ _
    refine A.seq ?_
    refine A.block ?_
    refine A.RS W0 [] [] [(4, .ptr 7004 0), (5, .lst false (ml (eL eInt) vx_5)), (6, .mapv 7025), (7, .int .i64 n_1), (8, .int .i64 (j1 : Int)), (9, .int .i64 (0:Int))] [(7004, .cells 26 [.lst false (ml eGRouter vx_4.Routers), .lst false (ml eGLink vx_4.Links)]), (7025, .map 3 3 (encM .i64 (vI .i64) m_1))] (by kernel_rfl) ?_
    refine A.block ?_
    refine A.bS 5 rfl fun hb2 => ?_
    replace hb2 := hb2.el (elO_nat hx1) (k := 0) rfl
    obtain ⟨B2, K2, hB2, hK2, hm⟩ := forI_some hm
    refine A.lpI (l := e1) (j0 := 0) (B := B2) (K := K2) hm (fun j2 => fun sg => match sg with | (n_2, m_2) => [(4, .ptr 7004 0), (5, .lst false (ml (eL eInt) vx_5)), (6, .mapv 7025), (7, .int .i64 n_2), (8, .int .i64 (j1 : Int)), (9, .int .i64 (j2 : Int))]) (fun j2 => fun sg => match sg with | (n_2, m_2) => [(7004, .cells 26 [.lst false (ml eGRouter vx_4.Routers), .lst false (ml eGLink vx_4.Links)]), (7025, .map 3 3 (encM .i64 (vI .i64) m_2))]) ?_ ?_ ?_
    · exact Weak.go [] [] (by kernel_rfl)
    · skip
      rintro j2 e2 Z2 ⟨n_2, m_2⟩ hj2 hx2 hm
      rw [hB2] at hm
      refine A.seq ?_
      refine A.RS W0 [] [(3, hix (ix (eL eInt) (elO_nat hx1))), (5, hto (lnE eInt e1))] [(4, .ptr 7004 0), (5, .lst false (ml (eL eInt) vx_5)), (6, .mapv 7025), (7, .int .i64 n_2), (8, .int .i64 (j1 : Int)), (9, .int .i64 (j2 : Int)), (38, .bool (decide ((j2 : Int) < (e1.length:Int))))] [(7004, .cells 26 [.lst false (ml eGRouter vx_4.Routers), .lst false (ml eGLink vx_4.Links)]), (7025, .map 3 3 (encM .i64 (vI .i64) m_2))] (by kernel_rfl) ?_
      refine A.cT rfl (ltT hx2) ?_
      refine A.skip ?_
      show acode _ _ _ _ _
      refine A.seq ?_
      refine A.block ?_
      refine A.RS W0 [] [(3, hix (ix (eL eInt) (elO_nat hx1))), (6, hix (ix eInt (elO_nat hx2))), (9, hmu (mu (k := .i64) (enc := (vI .i64)) m_2 e2 (j1 : Int) rfl))] [(4, .ptr 7004 0), (5, .lst false (ml (eL eInt) vx_5)), (6, .mapv 7025), (7, .int .i64 n_2), (8, .int .i64 (j1 : Int)), (9, .int .i64 (j2 : Int))] [(7004, .cells 26 [.lst false (ml eGRouter vx_4.Routers), .lst false (ml eGLink vx_4.Links)]), (7025, .map 3 3 (encM .i64 (vI .i64) (setI m_2 e2 (j1 : Int))))] (by kernel_rfl) ?_
      refine A.R W0 [] [] [(4, .ptr 7004 0), (5, .lst false (ml (eL eInt) vx_5)), (6, .mapv 7025), (7, .int .i64 (w64 (n_2 + (1:Int)))), (8, .int .i64 (j1 : Int)), (9, .int .i64 (j2 : Int))] [(7004, .cells 26 [.lst false (ml eGRouter vx_4.Routers), .lst false (ml eGLink vx_4.Links)]), (7025, .map 3 3 (encM .i64 (vI .i64) (setI m_2 e2 (j1 : Int))))] (by kernel_rfl) ?_
      show acode _ _ _ _ _
      refine A.R W0 [] [(1, hto (inc hx2 hb2))] [(4, .ptr 7004 0), (5, .lst false (ml (eL eInt) vx_5)), (6, .mapv 7025), (7, .int .i64 (w64 (n_2 + (1:Int)))), (8, .int .i64 (j1 : Int)), (9, .int .i64 ((j2 + 1 : Nat) : Int))] [(7004, .cells 26 [.lst false (ml eGRouter vx_4.Routers), .lst false (ml eGLink vx_4.Links)]), (7025, .map 3 3 (encM .i64 (vI .i64) (setI m_2 e2 (j1 : Int))))] (by kernel_rfl) ?_
      exact Exists.intro (w64 (n_2 + (1:Int)), setI m_2 e2 (j1 : Int)) (And.intro hm (Weak.go [] [] (by kernel_rfl)))
    rintro j2 ⟨n_2, m_2⟩ hj2 hl2 hm
    rw [hK2] at hm
    refine A.seq ?_
    refine A.RS W0 [] [(3, hix (ix (eL eInt) (elO_nat hx1))), (5, hto (lnE eInt e1))] [(4, .ptr 7004 0), (5, .lst false (ml (eL eInt) vx_5)), (6, .mapv 7025), (7, .int .i64 n_2), (8, .int .i64 (j1 : Int)), (9, .int .i64 (j2 : Int)), (38, .bool (decide ((j2 : Int) < (e1.length:Int))))] [(7004, .cells 26 [.lst false (ml eGRouter vx_4.Routers), .lst false (ml eGLink vx_4.Links)]), (7025, .map 3 3 (encM .i64 (vI .i64) m_2))] (by kernel_rfl) ?_
    refine A.cF rfl (ltF hl2) ?_
    refine A.exit ?_
    show acode _ _ _ _ _
    refine A.R W0 [] [(1, hto (inc hx1 hb1))] [(4, .ptr 7004 0), (5, .lst false (ml (eL eInt) vx_5)), (6, .mapv 7025), (7, .int .i64 n_2), (8, .int .i64 ((j1 + 1 : Nat) : Int))] [(7004, .cells 26 [.lst false (ml eGRouter vx_4.Routers), .lst false (ml eGLink vx_4.Links)]), (7025, .map 3 3 (encM .i64 (vI .i64) m_2))] (by kernel_rfl) ?_
    exact Exists.intro (n_2, m_2) (And.intro hm (Weak.go [] [] (by kernel_rfl)))
  rintro j1 ⟨n_1, m_1⟩ hj1 hl1 hm
  rw [hK1] at hm
  refine A.seq ?_
  refine A.RS W0 [] [(2, hto (lnE (eL eInt) vx_5))] [(4, .ptr 7004 0), (5, .lst false (ml (eL eInt) vx_5)), (6, .mapv 7025), (7, .int .i64 n_1), (8, .int .i64 (j1 : Int)), (29, .bool (decide ((j1 : Int) < (vx_5.length:Int))))] [(7004, .cells 26 [.lst false (ml eGRouter vx_4.Routers), .lst false (ml eGLink vx_4.Links)]), (7025, .map 3 3 (encM .i64 (vI .i64) m_1))] (by kernel_rfl) ?_
  refine A.cF rfl (ltF hl1) ?_
  refine A.exit ?_
  show acode _ _ _ _ _
  refine A.seq ?_
  refine A.mid [(4, .ptr 7004 0), (6, .mapv 7025), (62, .bool ((!decide (n_1 = (vx_4.Routers.length:Int))) || (!decide ((m_1.length:Int) = n_1))))] [(7004, .cells 26 [.lst false (ml eGRouter vx_4.Routers), .lst false (ml eGLink vx_4.Links)]), (7025, .map 3 3 (encM .i64 (vI .i64) m_1))] (fun hk => ?_) ?_
  · skip
    rcases tf (!decide (n_1 = (vx_4.Routers.length:Int))) with c1 | c1
    · skip
      exact A.RS W0 [] [(3, hto (lnE eGRouter vx_4.Routers)), (5, hto (bE c1)), (10, hto (orT (q := !decide ((m_1.length:Int) = n_1)) c1))] _ _ (by kernel_rfl) hk
    exact A.RS W0 [] [(3, hto (lnE eGRouter vx_4.Routers)), (5, hto (bE c1)), (7, hlm (lm (k := .i64) (enc := (vI .i64)) m_1)), (10, hto (orF (q := !decide ((m_1.length:Int) = n_1)) c1))] _ _ (by kernel_rfl) hk
  rcases cs_some hm with ⟨c2, hm⟩ | ⟨c2, hm⟩
  · skip
    refine A.cT rfl c2 ?_
    refine A.RS W0 [] [] [(2, .bool false)] [] (by kernel_rfl) ?_
    refine A.ret ?_
    obtain rfl := some_inj hm
    exact A.fin W0 [] rfl (by kernel_rfl)
  refine A.cF rfl c2 ?_
  refine A.skip ?_
  show acode _ _ _ _ _
  refine A.seq ?_
  refine A.RS W0 [] [] [(4, .ptr 7004 0), (6, .mapv 7025), (10, .int .i64 (0:Int))] [(7004, .cells 26 [.lst false (ml eGRouter vx_4.Routers), .lst false (ml eGLink vx_4.Links)]), (7025, .map 3 3 (encM .i64 (vI .i64) m_1))] (by kernel_rfl) ?_
  refine A.block ?_
  refine A.bC 4 0 rfl rfl rfl fun hb3 => ?_
  obtain ⟨B3, K3, hB3, hK3, hm⟩ := forI_some hm
  refine A.lpI (l := vx_4.Routers) (j0 := 0) (B := B3) (K := K3) hm (fun j3 => fun sg => match sg with | () => [(4, .ptr 7004 0), (6, .mapv 7025), (10, .int .i64 (j3 : Int))]) (fun j3 => fun sg => match sg with | () => [(7004, .cells 26 [.lst false (ml eGRouter vx_4.Routers), .lst false (ml eGLink vx_4.Links)]), (7025, .map 3 3 (encM .i64 (vI .i64) m_1))]) ?_ ?_ ?_
  · exact Weak.go [] [] (by kernel_rfl)
  · skip
    rintro j3 e3 Z3 ⟨⟩ hj3 hx3 hm
    rw [hB3] at hm
    refine A.seq ?_
    refine A.RS W0 [] [(3, hto (lnE eGRouter vx_4.Routers))] [(4, .ptr 7004 0), (6, .mapv 7025), (10, .int .i64 (j3 : Int)), (67, .bool (decide ((j3 : Int) < (vx_4.Routers.length:Int))))] [(7004, .cells 26 [.lst false (ml eGRouter vx_4.Routers), .lst false (ml eGLink vx_4.Links)]), (7025, .map 3 3 (encM .i64 (vI .i64) m_1))] (by kernel_rfl) ?_
    refine A.cT rfl (ltT hx3) ?_
    refine A.skip ?_
    show acode _ _ _ _ _
    refine A.seq ?_
    refine A.block ?_
    refine A.RS W0 [] [] [(4, .ptr 7004 0), (6, .mapv 7025), (10, .int .i64 (j3 : Int)), (11, .int .i64 (0:Int))] [(7004, .cells 26 [.lst false (ml eGRouter vx_4.Routers), .lst false (ml eGLink vx_4.Links)]), (7025, .map 3 3 (encM .i64 (vI .i64) m_1))] (by kernel_rfl) ?_
    refine A.block ?_
    refine A.bC 4 0 rfl rfl rfl fun hb4 => ?_
    obtain ⟨B4, K4, hB4, hK4, hm⟩ := forI_some hm
    refine A.lpI (l := vx_4.Routers) (j0 := 0) (B := B4) (K := K4) hm (fun j4 => fun sg => match sg with | () => [(4, .ptr 7004 0), (6, .mapv 7025), (10, .int .i64 (j3 : Int)), (11, .int .i64 (j4 : Int))]) (fun j4 => fun sg => match sg with | () => [(7004, .cells 26 [.lst false (ml eGRouter vx_4.Routers), .lst false (ml eGLink vx_4.Links)]), (7025, .map 3 3 (encM .i64 (vI .i64) m_1))]) ?_ ?_ ?_
    · exact Weak.go [] [] (by kernel_rfl)
    · skip
      rintro j4 e4 Z4 ⟨⟩ hj4 hx4 hm
      rw [hB4] at hm
      refine A.seq ?_
      refine A.RS W0 [] [(3, hto (lnE eGRouter vx_4.Routers))] [(4, .ptr 7004 0), (6, .mapv 7025), (10, .int .i64 (j3 : Int)), (11, .int .i64 (j4 : Int)), (74, .bool (decide ((j4 : Int) < (vx_4.Routers.length:Int))))] [(7004, .cells 26 [.lst false (ml eGRouter vx_4.Routers), .lst false (ml eGLink vx_4.Links)]), (7025, .map 3 3 (encM .i64 (vI .i64) m_1))] (by kernel_rfl) ?_
      refine A.cT rfl (ltT hx4) ?_
      refine A.skip ?_
      show acode _ _ _ _ _
      refine A.seq ?_
      refine A.block ?_
      refine A.RS W0 [] [(3, hix (ix eGRouter (elO_nat hx3))), (9, hix (ix eGRouter (elO_nat hx4)))] [(4, .ptr 7004 0), (6, .mapv 7025), (10, .int .i64 (j3 : Int)), (11, .int .i64 (j4 : Int)), (12, .int .i64 e3.ID), (13, .int .i64 e4.ID)] [(7004, .cells 26 [.lst false (ml eGRouter vx_4.Routers), .lst false (ml eGLink vx_4.Links)]), (7025, .map 3 3 (encM .i64 (vI .i64) m_1))] (by kernel_rfl) ?_
      obtain ⟨vx_6, h6, hm⟩ := bnd_some hm
      refine A.RS W0 [] [(3, hro (m_topology_Connected_ok h6) ck33), (6, hlk (lk (E := 3) (k := .i64) (enc := (vI .i64)) m_1 e3.ID (0:Int) (fun w => ⟨_, Try.zeroValue3 w, fun I => by simp [RepC, vI, vB]⟩))), (9, hlk (lk (E := 3) (k := .i64) (enc := (vI .i64)) m_1 e4.ID (0:Int) (fun w => ⟨_, Try.zeroValue3 w, fun I => by simp [RepC, vI, vB]⟩)))] [(4, .ptr 7004 0), (6, .mapv 7025), (10, .int .i64 (j3 : Int)), (11, .int .i64 (j4 : Int)), (100, .bool (!(vx_6 == (decide (((getI m_1 e3.ID).getD (0:Int)) = ((getI m_1 e4.ID).getD (0:Int)))))))] [(7004, .cells 26 [.lst false (ml eGRouter vx_4.Routers), .lst false (ml eGLink vx_4.Links)]), (7025, .map 3 3 (encM .i64 (vI .i64) m_1))] (by kernel_rfl) ?_
      rcases cs_some hm with ⟨c3, hm⟩ | ⟨c3, hm⟩
      · skip
        refine A.cT rfl c3 ?_
        refine A.RS W0 [] [] [(2, .bool false)] [] (by kernel_rfl) ?_
        refine A.ret ?_
        obtain rfl := some_inj hm
        exact A.fin W0 [] rfl (by kernel_rfl)
      refine A.cF rfl c3 ?_
      refine A.skip ?_
      show acode _ _ _ _ _
      refine A.R W0 [] [(1, hto (inc hx4 hb4))] [(4, .ptr 7004 0), (6, .mapv 7025), (10, .int .i64 (j3 : Int)), (11, .int .i64 ((j4 + 1 : Nat) : Int))] [(7004, .cells 26 [.lst false (ml eGRouter vx_4.Routers), .lst false (ml eGLink vx_4.Links)]), (7025, .map 3 3 (encM .i64 (vI .i64) m_1))] (by kernel_rfl) ?_
      exact Exists.intro () (And.intro hm (Weak.go [] [] (by kernel_rfl)))
    rintro j4 ⟨⟩ hj4 hl4 hm
    rw [hK4] at hm
    refine A.seq ?_
    refine A.RS W0 [] [(3, hto (lnE eGRouter vx_4.Routers))] [(4, .ptr 7004 0), (6, .mapv 7025), (10, .int .i64 (j3 : Int)), (11, .int .i64 (j4 : Int)), (74, .bool (decide ((j4 : Int) < (vx_4.Routers.length:Int))))] [(7004, .cells 26 [.lst false (ml eGRouter vx_4.Routers), .lst false (ml eGLink vx_4.Links)]), (7025, .map 3 3 (encM .i64 (vI .i64) m_1))] (by kernel_rfl) ?_
    refine A.cF rfl (ltF hl4) ?_
    refine A.exit ?_
    show acode _ _ _ _ _
    refine A.R W0 [] [(1, hto (inc hx3 hb3))] [(4, .ptr 7004 0), (6, .mapv 7025), (10, .int .i64 ((j3 + 1 : Nat) : Int))] [(7004, .cells 26 [.lst false (ml eGRouter vx_4.Routers), .lst false (ml eGLink vx_4.Links)]), (7025, .map 3 3 (encM .i64 (vI .i64) m_1))] (by kernel_rfl) ?_
    exact Exists.intro () (And.intro hm (Weak.go [] [] (by kernel_rfl)))
  rintro j3 ⟨⟩ hj3 hl3 hm
  rw [hK3] at hm
  refine A.seq ?_
  refine A.RS W0 [] [(3, hto (lnE eGRouter vx_4.Routers))] [(4, .ptr 7004 0), (6, .mapv 7025), (10, .int .i64 (j3 : Int)), (67, .bool (decide ((j3 : Int) < (vx_4.Routers.length:Int))))] [(7004, .cells 26 [.lst false (ml eGRouter vx_4.Routers), .lst false (ml eGLink vx_4.Links)]), (7025, .map 3 3 (encM .i64 (vI .i64) m_1))] (by kernel_rfl) ?_
  refine A.cF rfl (ltF hl3) ?_
  refine A.exit ?_
  show acode _ _ _ _ _
  obtain ⟨vx_7, h7, hm⟩ := bnd_some hm
  refine A.RS W0 [] [(0, hro (m_law05_awake_ok h7) ck16)] [(2, .bool vx_7)] [] (by kernel_rfl) ?_
  refine A.ret ?_
  obtain rfl := some_inj hm
  exact A.fin W0 [] rfl (by kernel_rfl)
end Go.Proofs.Ytggbjbcgfelgiaa
