/- The walks of functions of the program. No condition but those that stand in each. -/
import Derived.Test.YtckhladakpjlgaaDL2
import Derived.Test.YtckhladakpjlgaaV2
import Derived.Test.YtckhladakpjlgaaV3
import Derived.Test.YtckhladakpjlgaaVA
import Derived.Test.YtckhladakpjlgaaVL
namespace Go.Proofs.Ytckhladakpjlgaa
open Go
set_option maxRecDepth 100000
set_option linter.all false
theorem m_law05_TopologyLimits_ok {n : Int} {r : Bool} (hm : m_law05_TopologyLimits n = some r) : RO Try.prog 4 [] [.int .u8 n] (.bool r) := by
  refine enterA Try.func4 rfl rfl ?_
  unfold m_law05_TopologyLimits at hm
  refine A.RS W0 [] [] [(0, .int .u8 n)] [] (by kernel_rfl) ?_
  refine A.RS W0 [] [(0, .al 4003)] [(0, .int .u8 n), (3, .ptr 4003 0)] [(4003, .cells 30 [.nils, .nils])] (by kernel_rfl) ?_
  refine A.seq ?_
  refine A.RS W0 [] [] [(0, .int .u8 n), (3, .ptr 4003 0), (4, .int .i64 (1:Int))] [(4003, .cells 30 [.nils, .nils])] (by kernel_rfl) ?_
  refine A.block ?_
  obtain ⟨B1, K1, hB1, hK1, hm⟩ := forN_some hm
  refine A.lpN (hi := (25:Int)) (B := B1) (K := K1) hm rfl (fun j1 => fun m_1 => [(0, .int .u8 n), (3, .ptr 4003 0), (4, .int .i64 (j1 : Int))]) (fun j1 => fun m_1 => [(4003, .cells 30 [.own 700400300, .nils]), (700400300, .slice 42 2 (ml eGRouter m_1) 0 false)]) ?_ ?_ ?_
  · exact Weak.go [.ac 4003 700400300 42 2 0] [] (by kernel_rfl)
  · skip
    rintro j1 Z1 m_1 hj1 hx1 hm
    rw [hB1] at hm
    refine A.seq ?_
    refine A.RS W0 [] [] [(0, .int .u8 n), (3, .ptr 4003 0), (4, .int .i64 (j1 : Int)), (13, .bool (decide ((j1 : Int) ≤ (24:Int))))] [(4003, .cells 30 [.own 700400300, .nils]), (700400300, .slice 42 2 (ml eGRouter m_1) 0 false)] (by kernel_rfl) ?_
    refine A.cT rfl (leT hx1) ?_
    refine A.skip ?_
    show acode _ _ _ _ _
    refine A.seq ?_
    refine A.block ?_
    obtain ⟨l_1, h1, hm⟩ := bnd_some hm
    refine A.R W0 [] [(5, hap 4521 (ap eGRouter (bytes := 16) (by decide) h1))] [(0, .int .u8 n), (3, .ptr 4003 0), (4, .int .i64 (j1 : Int))] [(4003, .cells 30 [.own 4521, .nils]), (4521, .slice 42 2 (ml eGRouter l_1) 0 false)] (by kernel_rfl) ?_
    show acode _ _ _ _ _
    refine A.R W0 [] [(1, hto (incN (by omega) hx1 (by decide)))] [(0, .int .u8 n), (3, .ptr 4003 0), (4, .int .i64 (j1 + 1 : Int))] [(4003, .cells 30 [.own 4521, .nils]), (4521, .slice 42 2 (ml eGRouter l_1) 0 false)] (by kernel_rfl) ?_
    exact Exists.intro l_1 (And.intro hm (Weak.go [.sw 4521 700400300] [] (by kernel_rfl)))
  rintro j1 m_1 hj1 hl1 hm
  rw [hK1] at hm
  refine A.seq ?_
  refine A.RS W0 [] [] [(0, .int .u8 n), (3, .ptr 4003 0), (4, .int .i64 (j1 : Int)), (13, .bool (decide ((j1 : Int) ≤ (24:Int))))] [(4003, .cells 30 [.own 700400300, .nils]), (700400300, .slice 42 2 (ml eGRouter m_1) 0 false)] (by kernel_rfl) ?_
  refine A.cF rfl (gtF hl1) ?_
  refine A.exit ?_
  show acode _ _ _ _ _
  refine A.seq ?_
  refine A.RS W0 [] [] [(0, .int .u8 n), (3, .ptr 4003 0), (5, .int .i64 (1:Int))] [(4003, .cells 30 [.own 700400300, .nils]), (700400300, .slice 42 2 (ml eGRouter m_1) 0 false)] (by kernel_rfl) ?_
  refine A.block ?_
  obtain ⟨B2, K2, hB2, hK2, hm⟩ := forN_some hm
  refine A.lpN (hi := (25:Int)) (B := B2) (K := K2) hm rfl (fun j2 => fun m_2 => [(0, .int .u8 n), (3, .ptr 4003 0), (5, .int .i64 (j2 : Int))]) (fun j2 => fun m_2 => [(4003, .cells 30 [.own 700400300, .own 700400301]), (700400300, .slice 42 2 (ml eGRouter m_1) 0 false), (700400301, .slice 44 5 (ml eGLink m_2) 0 false)]) ?_ ?_ ?_
  · exact Weak.go [.ac 4003 700400301 44 5 1] [] (by kernel_rfl)
  · skip
    rintro j2 Z2 m_2 hj2 hx2 hm
    rw [hB2] at hm
    refine A.seq ?_
    refine A.RS W0 [] [] [(0, .int .u8 n), (3, .ptr 4003 0), (5, .int .i64 (j2 : Int)), (24, .bool (decide ((j2 : Int) ≤ (24:Int))))] [(4003, .cells 30 [.own 700400300, .own 700400301]), (700400300, .slice 42 2 (ml eGRouter m_1) 0 false), (700400301, .slice 44 5 (ml eGLink m_2) 0 false)] (by kernel_rfl) ?_
    refine A.cT rfl (leT hx2) ?_
    refine A.skip ?_
    show acode _ _ _ _ _
    refine A.seq ?_
    refine A.block ?_
    refine A.RS W0 [] [] [(0, .int .u8 n), (3, .ptr 4003 0), (5, .int .i64 (j2 : Int)), (6, .int .i64 (w64 ((j2 : Int) + (1:Int))))] [(4003, .cells 30 [.own 700400300, .own 700400301]), (700400300, .slice 42 2 (ml eGRouter m_1) 0 false), (700400301, .slice 44 5 (ml eGLink m_2) 0 false)] (by kernel_rfl) ?_
    refine A.block ?_
    obtain ⟨F3, n3, hF3, hm⟩ := whl_some hm
    refine A.lpW (F := F3) hm (fun sg => match sg with | (b_1, m_3) => [(0, .int .u8 n), (3, .ptr 4003 0), (5, .int .i64 (j2 : Int)), (6, .int .i64 b_1)]) (fun sg => match sg with | (b_1, m_3) => [(4003, .cells 30 [.own 700400300, .own 700400301]), (700400300, .slice 42 2 (ml eGRouter m_1) 0 false), (700400301, .slice 44 5 (ml eGLink m_3) 0 false)]) ?_ ?_
    · exact Weak.go [] [] (by kernel_rfl)
    rintro Z3 ⟨b_1, m_3⟩ hm
    rw [hF3] at hm
    refine A.seq ?_
    refine A.mid [(0, .int .u8 n), (3, .ptr 4003 0), (5, .int .i64 (j2 : Int)), (6, .int .i64 b_1), (36, .bool ((decide (b_1 ≤ (24:Int))) && (decide ((m_3.length:Int) < (60:Int)))))] [(4003, .cells 30 [.own 700400300, .own 700400301]), (700400300, .slice 42 2 (ml eGRouter m_1) 0 false), (700400301, .slice 44 5 (ml eGLink m_3) 0 false)] (fun hk => ?_) ?_
    · skip
      rcases tf (decide (b_1 ≤ (24:Int))) with c1 | c1
      · skip
        exact A.RS W0 [] [(2, hto (bE c1)), (5, hto (lnE eGLink m_3)), (7, hto (andT (q := decide ((m_3.length:Int) < (60:Int))) c1))] _ _ (by kernel_rfl) hk
      exact A.RS W0 [] [(2, hto (bE c1)), (7, hto (andF (q := decide ((m_3.length:Int) < (60:Int))) c1))] _ _ (by kernel_rfl) hk
    rcases cs_some hm with ⟨c2, hm⟩ | ⟨c2, hm⟩
    · skip
      refine A.cT rfl c2 ?_
      refine A.skip ?_
      show acode _ _ _ _ _
      refine A.seq ?_
      refine A.block ?_
      obtain ⟨l_2, h2, hm⟩ := bnd_some hm
      refine A.R W0 [] [(9, hap 4548 (ap eGLink (bytes := 40) (by decide) h2))] [(0, .int .u8 n), (3, .ptr 4003 0), (5, .int .i64 (j2 : Int)), (6, .int .i64 b_1)] [(4003, .cells 30 [.own 700400300, .own 4548]), (700400300, .slice 42 2 (ml eGRouter m_1) 0 false), (4548, .slice 44 5 (ml eGLink l_2) 0 false)] (by kernel_rfl) ?_
      show acode _ _ _ _ _
      refine A.R W0 [] [] [(0, .int .u8 n), (3, .ptr 4003 0), (5, .int .i64 (j2 : Int)), (6, .int .i64 (w64 (b_1 + (1:Int))))] [(4003, .cells 30 [.own 700400300, .own 4548]), (700400300, .slice 42 2 (ml eGRouter m_1) 0 false), (4548, .slice 44 5 (ml eGLink l_2) 0 false)] (by kernel_rfl) ?_
      exact Exists.intro (w64 (b_1 + (1:Int)), l_2) (And.intro hm (Weak.go [.sw 4548 700400301] [] (by kernel_rfl)))
    refine A.cF rfl c2 ?_
    refine A.exit ?_
    show acode _ _ _ _ _
    refine A.R W0 [] [(1, hto (incN (by omega) hx2 (by decide)))] [(0, .int .u8 n), (3, .ptr 4003 0), (5, .int .i64 (j2 + 1 : Int))] [(4003, .cells 30 [.own 700400300, .own 700400301]), (700400300, .slice 42 2 (ml eGRouter m_1) 0 false), (700400301, .slice 44 5 (ml eGLink m_3) 0 false)] (by kernel_rfl) ?_
    exact Exists.intro m_3 (And.intro hm (Weak.go [] [] (by kernel_rfl)))
  rintro j2 m_2 hj2 hl2 hm
  rw [hK2] at hm
  refine A.seq ?_
  refine A.RS W0 [] [] [(0, .int .u8 n), (3, .ptr 4003 0), (5, .int .i64 (j2 : Int)), (24, .bool (decide ((j2 : Int) ≤ (24:Int))))] [(4003, .cells 30 [.own 700400300, .own 700400301]), (700400300, .slice 42 2 (ml eGRouter m_1) 0 false), (700400301, .slice 44 5 (ml eGLink m_2) 0 false)] (by kernel_rfl) ?_
  refine A.cF rfl (gtF hl2) ?_
  refine A.exit ?_
  show acode _ _ _ _ _
  refine A.RS W0 [] [(1, .al 4007)] [(3, .ptr 4003 0), (7, .ptr 4007 0)] [(4003, .cells 30 [.own 700400300, .own 700400301]), (700400300, .slice 42 2 (ml eGRouter m_1) 0 false), (700400301, .slice 44 5 (ml eGLink m_2) 0 false), (4007, .cells 30 [.own 700400300, .own 700400301])] (by kernel_rfl) ?_
  obtain ⟨l_3, h3, hm⟩ := bnd_some hm
  obtain ⟨l_4, h4, hm⟩ := bnd_some hm
  refine A.RS W0 [.fz [700400300]] [(4, hto (lnE eGRouter m_1)), (7, hto (lnE eGRouter m_1)), (8, hs3 (sl eGRouter h3)), (11, hap 4562 (ap eGRouter (bytes := 16) (by decide) h4))] [(3, .ptr 4003 0), (7, .ptr 4007 0)] [(4003, .cells 30 [.own 700400300, .own 700400301]), (700400300, .slice 42 2 (ml eGRouter m_1) (ml eGRouter m_1).length true), (700400301, .slice 44 5 (ml eGLink m_2) 0 false), (4007, .cells 30 [.own 4562, .own 700400301]), (4562, .slice 42 2 (ml eGRouter l_4) 0 false)] (by kernel_rfl) ?_
  obtain ⟨vx_1, h5, hm⟩ := bnd_some hm
  refine A.RS W0 [.fz [700400301]] [(2, hro (m_topology_Apply_ok h5) ck8), (6, .al 4008)] [(3, .ptr 4003 0), (7, .ptr 4007 0), (9, .int .i64 vx_1.2)] [(4003, .cells 30 [.own 700400300, .own 700400301]), (700400300, .slice 42 2 (ml eGRouter m_1) (ml eGRouter m_1).length true), (700400301, .slice 44 5 (ml eGLink m_2) (ml eGLink m_2).length true), (4007, .cells 30 [.own 4562, .own 700400301]), (4562, .slice 42 2 (ml eGRouter l_4) 0 false)] (by kernel_rfl) ?_
  obtain ⟨vx_2, h6, hm⟩ := bnd_some hm
  refine A.RS W0 [] [(2, hro (m_topology_Apply_ok h6) ck8), (6, .al 4010)] [(3, .ptr 4003 0), (7, .ptr 4007 0), (9, .int .i64 vx_1.2), (10, .ptr 4010 0), (11, .int .i64 vx_2.2)] [(4003, .cells 30 [.own 700400300, .own 700400301]), (700400300, .slice 42 2 (ml eGRouter m_1) (ml eGRouter m_1).length true), (700400301, .slice 44 5 (ml eGLink m_2) (ml eGLink m_2).length true), (4007, .cells 30 [.own 4562, .own 700400301]), (4562, .slice 42 2 (ml eGRouter l_4) 0 false), (4010, .cells 30 [.lst false (ml eGRouter vx_2.1.Routers), .lst false (ml eGLink vx_2.1.Links)])] (by kernel_rfl) ?_
  obtain ⟨vx_3, h7, hm⟩ := bnd_some hm
  rcases cs_some hm with ⟨c3, hm⟩ | ⟨c3, hm⟩
  · skip
    obtain ⟨vx_4, h8, hm⟩ := bnd_some hm
    rcases cs_some hm with ⟨c4, hm⟩ | ⟨c4, hm⟩
    · skip
      rcases cs_some hm with ⟨c5, hm⟩ | ⟨c5, hm⟩
      · skip
        rcases cs_some hm with ⟨c6, hm⟩ | ⟨c6, hm⟩
        · skip
          rcases cs_some hm with ⟨c7, hm⟩ | ⟨c7, hm⟩
          · skip
            obtain ⟨e_1, h9, hm⟩ := bnd_some hm
            rcases cs_some hm with ⟨c8, hm⟩ | ⟨c8, hm⟩
            · skip
              obtain ⟨vx_5, h10, hm⟩ := bnd_some hm
              refine A.RS W0 [] [(1, hro (m_topology_Check_ok h7) ck11), (3, hto (bE c3)), (5, hle [4562, 700400301] (m_topology_Check_ok h8) ck11), (8, hto (bE c4)), (12, hto (bE c5)), (16, hto (bE c6)), (19, hto (lnE eGLink vx_2.1.Links)), (22, hto (bE c7)), (25, hix (ix eGLink h9)), (28, .sq false 44 (.agg [.int .i64 e_1.A, .int .i64 e_1.B, .int .i64 e_1.CostA, .int .i64 e_1.CostB, .int .i64 e_1.Capacity]) (.agg [.int .i64 (1:Int), .int .i64 (2:Int), .int .i64 (6:Int), .int .i64 (5:Int), .int .i64 (1000:Int)]) (eqGLink e_1 (GLink.mk (1:Int) (2:Int) (6:Int) (5:Int) (1000:Int))) (fun x y w => eq44_eql x y _ _ _ _ _ _ _ _ _ _ w)), (30, hto (bE c8)), (31, hro (m_law05_awake_ok h10) ck12)] [(2, .bool vx_5)] [] (by kernel_rfl) ?_
              refine A.ret ?_
              obtain rfl := some_inj hm
              exact A.fin W0 [] rfl (by kernel_rfl)
            refine A.RS W0 [] [(1, hro (m_topology_Check_ok h7) ck11), (3, hto (bE c3)), (5, hle [4562, 700400301] (m_topology_Check_ok h8) ck11), (8, hto (bE c4)), (12, hto (bE c5)), (16, hto (bE c6)), (19, hto (lnE eGLink vx_2.1.Links)), (22, hto (bE c7)), (25, hix (ix eGLink h9)), (28, .sq false 44 (.agg [.int .i64 e_1.A, .int .i64 e_1.B, .int .i64 e_1.CostA, .int .i64 e_1.CostB, .int .i64 e_1.Capacity]) (.agg [.int .i64 (1:Int), .int .i64 (2:Int), .int .i64 (6:Int), .int .i64 (5:Int), .int .i64 (1000:Int)]) (eqGLink e_1 (GLink.mk (1:Int) (2:Int) (6:Int) (5:Int) (1000:Int))) (fun x y w => eq44_eql x y _ _ _ _ _ _ _ _ _ _ w)), (30, hto (bE c8))] [(2, .bool false)] [] (by kernel_rfl) ?_
            refine A.ret ?_
            obtain rfl := some_inj hm
            exact A.fin W0 [] rfl (by kernel_rfl)
          refine A.RS W0 [] [(1, hro (m_topology_Check_ok h7) ck11), (3, hto (bE c3)), (5, hle [4562, 700400301] (m_topology_Check_ok h8) ck11), (8, hto (bE c4)), (12, hto (bE c5)), (16, hto (bE c6)), (19, hto (lnE eGLink vx_2.1.Links)), (22, hto (bE c7))] [(2, .bool false)] [] (by kernel_rfl) ?_
          refine A.ret ?_
          obtain rfl := some_inj hm
          exact A.fin W0 [] rfl (by kernel_rfl)
        refine A.RS W0 [] [(1, hro (m_topology_Check_ok h7) ck11), (3, hto (bE c3)), (5, hle [4562, 700400301] (m_topology_Check_ok h8) ck11), (8, hto (bE c4)), (12, hto (bE c5)), (16, hto (bE c6))] [(2, .bool false)] [] (by kernel_rfl) ?_
        refine A.ret ?_
        obtain rfl := some_inj hm
        exact A.fin W0 [] rfl (by kernel_rfl)
      refine A.RS W0 [] [(1, hro (m_topology_Check_ok h7) ck11), (3, hto (bE c3)), (5, hle [4562, 700400301] (m_topology_Check_ok h8) ck11), (8, hto (bE c4)), (12, hto (bE c5))] [(2, .bool false)] [] (by kernel_rfl) ?_
      refine A.ret ?_
      obtain rfl := some_inj hm
      exact A.fin W0 [] rfl (by kernel_rfl)
    refine A.RS W0 [] [(1, hro (m_topology_Check_ok h7) ck11), (3, hto (bE c3)), (5, hle [4562, 700400301] (m_topology_Check_ok h8) ck11), (8, hto (bE c4))] [(2, .bool false)] [] (by kernel_rfl) ?_
    refine A.ret ?_
    obtain rfl := some_inj hm
    exact A.fin W0 [] rfl (by kernel_rfl)
  refine A.RS W0 [] [(1, hro (m_topology_Check_ok h7) ck11), (3, hto (bE c3))] [(2, .bool false)] [] (by kernel_rfl) ?_
  refine A.ret ?_
  obtain rfl := some_inj hm
  exact A.fin W0 [] rfl (by kernel_rfl)
end Go.Proofs.Ytckhladakpjlgaa
