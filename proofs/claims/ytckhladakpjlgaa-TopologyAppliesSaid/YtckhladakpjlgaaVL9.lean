/- The walks of functions of the program. No condition but those that stand in each. -/
import Derived.Test.YtckhladakpjlgaaDL9
import Derived.Test.YtckhladakpjlgaaV2
import Derived.Test.YtckhladakpjlgaaV3
import Derived.Test.YtckhladakpjlgaaVA
import Derived.Test.YtckhladakpjlgaaVL
namespace Go.Proofs.Ytckhladakpjlgaa
open Go
set_option maxRecDepth 100000
set_option linter.all false
theorem m_law05_TopologyApplies_ok {t : List Int} {raw : GChange} {r : Bool} (hm : m_law05_TopologyApplies t raw = some r) : RO Try.prog 3 [] [.lst false (ml eInt t), .agg [.int .i64 raw.A, .int .i64 raw.B, .int .i64 raw.CostA, .int .i64 raw.CostB]] (.bool r) := by
  refine enterA Try.func3 rfl rfl ?_
  unfold m_law05_TopologyApplies at hm
  refine A.RS W0 [] [(0, .al 3003)] [(0, .lst false (ml eInt t)), (3, .ptr 3003 0)] [(3003, .cells 24 [.int .i64 raw.A, .int .i64 raw.B, .int .i64 raw.CostA, .int .i64 raw.CostB])] (by kernel_rfl) ?_
  obtain ⟨vx_1, h1, hm⟩ := bnd_some hm
  refine A.RS W0 [] [(1, hdc [900000047] (m_mk_New_ok h1) ck5)] [(3, .ptr 3003 0), (5, .ptr 900000047 0)] [(3003, .cells 24 [.int .i64 raw.A, .int .i64 raw.B, .int .i64 raw.CostA, .int .i64 raw.CostB]), (900000047, .cells 47 [.lst false (ml eInt vx_1.L), .int .i64 vx_1.At])] (by kernel_rfl) ?_
  obtain ⟨vx_2, h2, hm⟩ := bnd_some hm
  refine A.RS W0 [] [(1, hdc [500000600, 500000601] (m_mk_Tape_Topology_ok h2) ck6), (2, .al 3006)] [(3, .ptr 3003 0), (5, .ptr 900000047 0), (6, .ptr 3006 0)] [(3003, .cells 24 [.int .i64 raw.A, .int .i64 raw.B, .int .i64 raw.CostA, .int .i64 raw.CostB]), (900000047, .cells 47 [.lst false (ml eInt vx_2.2.L), .int .i64 vx_2.2.At]), (500000600, .slice 42 2 (ml eGRouter vx_2.1.Routers) 0 false), (500000601, .slice 44 5 (ml eGLink vx_2.1.Links) 0 false), (3006, .cells 30 [.own 500000600, .own 500000601])] (by kernel_rfl) ?_
  obtain ⟨vx_3, h3, hm⟩ := bnd_some hm
  obtain ⟨vx_4, h4, hm⟩ := bnd_some hm
  refine A.RS W0 [.fz [500000600, 500000601]] [(2, hdc [] (m_mk_Tape_Change_ok h3) ck7), (5, hdc [] (m_mk_Tape_Change_ok h4) ck7)] [(6, .ptr 3006 0), (7, .lst true (ml eGChange ([vx_3.1, vx_4.1, raw] : List GChange)))] [(500000600, .slice 42 2 (ml eGRouter vx_2.1.Routers) (ml eGRouter vx_2.1.Routers).length true), (500000601, .slice 44 5 (ml eGLink vx_2.1.Links) (ml eGLink vx_2.1.Links).length true), (3006, .cells 30 [.own 500000600, .own 500000601])] (by kernel_rfl) ?_
  refine A.seq ?_
  refine A.RS W0 [] [] [(6, .ptr 3006 0), (7, .lst true (ml eGChange ([vx_3.1, vx_4.1, raw] : List GChange))), (8, .int .i64 (0:Int))] [(500000600, .slice 42 2 (ml eGRouter vx_2.1.Routers) (ml eGRouter vx_2.1.Routers).length true), (500000601, .slice 44 5 (ml eGLink vx_2.1.Links) (ml eGLink vx_2.1.Links).length true), (3006, .cells 30 [.own 500000600, .own 500000601])] (by kernel_rfl) ?_
  refine A.block ?_
  refine A.bS 7 rfl fun hb1 => ?_
  obtain ⟨B1, K1, hB1, hK1, hm⟩ := forI_some hm
  refine A.lpI (l := ([vx_3.1, vx_4.1, raw] : List GChange)) (j0 := 0) (B := B1) (K := K1) hm (fun j1 => fun sg => match sg with | () => [(6, .ptr 3006 0), (7, .lst true (ml eGChange ([vx_3.1, vx_4.1, raw] : List GChange))), (8, .int .i64 (j1 : Int))]) (fun j1 => fun sg => match sg with | () => [(500000600, .slice 42 2 (ml eGRouter vx_2.1.Routers) (ml eGRouter vx_2.1.Routers).length true), (500000601, .slice 44 5 (ml eGLink vx_2.1.Links) (ml eGLink vx_2.1.Links).length true), (3006, .cells 30 [.own 500000600, .own 500000601])]) ?_ ?_ ?_
  · exact Weak.go [] [] (by kernel_rfl)
  · skip
    rintro j1 e1 Z1 ⟨⟩ hj1 hx1 hm
    rw [hB1] at hm
    refine A.seq ?_
    refine A.RS W0 [] [(2, hto (lnE eGChange ([vx_3.1, vx_4.1, raw] : List GChange)))] [(6, .ptr 3006 0), (7, .lst true (ml eGChange ([vx_3.1, vx_4.1, raw] : List GChange))), (8, .int .i64 (j1 : Int)), (28, .bool (decide ((j1 : Int) < (([vx_3.1, vx_4.1, raw] : List GChange).length:Int))))] [(500000600, .slice 42 2 (ml eGRouter vx_2.1.Routers) (ml eGRouter vx_2.1.Routers).length true), (500000601, .slice 44 5 (ml eGLink vx_2.1.Links) (ml eGLink vx_2.1.Links).length true), (3006, .cells 30 [.own 500000600, .own 500000601])] (by kernel_rfl) ?_
    refine A.cT rfl (ltT hx1) ?_
    refine A.skip ?_
    show acode _ _ _ _ _
    refine A.seq ?_
    refine A.block ?_
    obtain ⟨vx_5, h5, hm⟩ := bnd_some hm
    refine A.RS W0 [] [(3, hix (ix eGChange (elO_nat hx1))), (5, hro (m_topology_Apply_ok h5) ck8), (9, .al 3009)] [(6, .ptr 3006 0), (7, .lst true (ml eGChange ([vx_3.1, vx_4.1, raw] : List GChange))), (8, .int .i64 (j1 : Int)), (9, .ptr 3009 0), (10, .int .i64 vx_5.2)] [(500000600, .slice 42 2 (ml eGRouter vx_2.1.Routers) (ml eGRouter vx_2.1.Routers).length true), (500000601, .slice 44 5 (ml eGLink vx_2.1.Links) (ml eGLink vx_2.1.Links).length true), (3006, .cells 30 [.own 500000600, .own 500000601]), (3009, .cells 30 [.lst false (ml eGRouter vx_5.1.Routers), .lst false (ml eGLink vx_5.1.Links)])] (by kernel_rfl) ?_
    obtain ⟨vx_6, h6, hm⟩ := bnd_some hm
    refine A.RS W0 [] [(3, hix (ix eGChange (elO_nat hx1))), (5, hro (m_ref05_Apply_ok h6) ck9), (9, .al 3011)] [(6, .ptr 3006 0), (7, .lst true (ml eGChange ([vx_3.1, vx_4.1, raw] : List GChange))), (8, .int .i64 (j1 : Int)), (9, .ptr 3009 0), (10, .int .i64 vx_5.2), (11, .ptr 3011 0), (12, .int .i64 vx_6.2)] [(500000600, .slice 42 2 (ml eGRouter vx_2.1.Routers) (ml eGRouter vx_2.1.Routers).length true), (500000601, .slice 44 5 (ml eGLink vx_2.1.Links) (ml eGLink vx_2.1.Links).length true), (3006, .cells 30 [.own 500000600, .own 500000601]), (3009, .cells 30 [.lst false (ml eGRouter vx_5.1.Routers), .lst false (ml eGLink vx_5.1.Links)]), (3011, .cells 30 [.lst false (ml eGRouter vx_6.1.Routers), .lst false (ml eGLink vx_6.1.Links)])] (by kernel_rfl) ?_
    obtain ⟨J1, hJ1, hm⟩ := jn_some hm
    refine A.J (J := J1) (r := r) (fun v_1 => [(6, .ptr 3006 0), (7, .lst true (ml eGChange ([vx_3.1, vx_4.1, raw] : List GChange))), (8, .int .i64 (j1 : Int)), (66, .bool v_1)]) (fun v_1 => [(500000600, .slice 42 2 (ml eGRouter vx_2.1.Routers) (ml eGRouter vx_2.1.Routers).length true), (500000601, .slice 44 5 (ml eGLink vx_2.1.Links) (ml eGLink vx_2.1.Links).length true), (3006, .cells 30 [.own 500000600, .own 500000601])]) ?_ ?_
    · skip
      obtain ⟨vx_7, h7, hm⟩ := bnd_some hm
      rcases cs_some hm with ⟨c1, hm⟩ | ⟨c1, hm⟩
      · skip
        refine A.R W0 [] [(2, hro (m_ref05_Same_ok h7) ck10), (4, hto (bE c1))] [(6, .ptr 3006 0), (7, .lst true (ml eGChange ([vx_3.1, vx_4.1, raw] : List GChange))), (8, .int .i64 (j1 : Int)), (66, .bool true)] [(500000600, .slice 42 2 (ml eGRouter vx_2.1.Routers) (ml eGRouter vx_2.1.Routers).length true), (500000601, .slice 44 5 (ml eGLink vx_2.1.Links) (ml eGLink vx_2.1.Links).length true), (3006, .cells 30 [.own 500000600, .own 500000601])] (by kernel_rfl) ?_
        exact Exists.intro true (And.intro hm (Weak.go [] [] (by kernel_rfl)))
      rcases cs_some hm with ⟨c2, hm⟩ | ⟨c2, hm⟩
      · skip
        refine A.R W0 [] [(2, hro (m_ref05_Same_ok h7) ck10), (4, hto (bE c1)), (9, hto (bE c2))] [(6, .ptr 3006 0), (7, .lst true (ml eGChange ([vx_3.1, vx_4.1, raw] : List GChange))), (8, .int .i64 (j1 : Int)), (66, .bool true)] [(500000600, .slice 42 2 (ml eGRouter vx_2.1.Routers) (ml eGRouter vx_2.1.Routers).length true), (500000601, .slice 44 5 (ml eGLink vx_2.1.Links) (ml eGLink vx_2.1.Links).length true), (3006, .cells 30 [.own 500000600, .own 500000601])] (by kernel_rfl) ?_
        exact Exists.intro true (And.intro hm (Weak.go [] [] (by kernel_rfl)))
      rcases cs_some hm with ⟨c3, hm⟩ | ⟨c3, hm⟩
      · skip
        obtain ⟨vx_8, h8, hm⟩ := bnd_some hm
        refine A.R W0 [] [(2, hro (m_ref05_Same_ok h7) ck10), (4, hto (bE c1)), (9, hto (bE c2)), (12, hto (bE c3)), (14, hro (m_topology_Check_ok h8) ck11)] [(6, .ptr 3006 0), (7, .lst true (ml eGChange ([vx_3.1, vx_4.1, raw] : List GChange))), (8, .int .i64 (j1 : Int)), (66, .bool (!decide (vx_8 = (0:Int))))] [(500000600, .slice 42 2 (ml eGRouter vx_2.1.Routers) (ml eGRouter vx_2.1.Routers).length true), (500000601, .slice 44 5 (ml eGLink vx_2.1.Links) (ml eGLink vx_2.1.Links).length true), (3006, .cells 30 [.own 500000600, .own 500000601])] (by kernel_rfl) ?_
        exact Exists.intro (!decide (vx_8 = (0:Int))) (And.intro hm (Weak.go [] [] (by kernel_rfl)))
      refine A.R W0 [] [(2, hro (m_ref05_Same_ok h7) ck10), (4, hto (bE c1)), (9, hto (bE c2)), (12, hto (bE c3))] [(6, .ptr 3006 0), (7, .lst true (ml eGChange ([vx_3.1, vx_4.1, raw] : List GChange))), (8, .int .i64 (j1 : Int)), (66, .bool false)] [(500000600, .slice 42 2 (ml eGRouter vx_2.1.Routers) (ml eGRouter vx_2.1.Routers).length true), (500000601, .slice 44 5 (ml eGLink vx_2.1.Links) (ml eGLink vx_2.1.Links).length true), (3006, .cells 30 [.own 500000600, .own 500000601])] (by kernel_rfl) ?_
      exact Exists.intro false (And.intro hm (Weak.go [] [] (by kernel_rfl)))
    rintro v_1 hm
    rw [hJ1] at hm
    rcases cs_some hm with ⟨c4, hm⟩ | ⟨c4, hm⟩
    · skip
      refine A.cT rfl c4 ?_
      refine A.RS W0 [] [] [(4, .bool false)] [] (by kernel_rfl) ?_
      refine A.ret ?_
      obtain rfl := some_inj hm
      exact A.fin W0 [] rfl (by kernel_rfl)
    refine A.cF rfl c4 ?_
    refine A.skip ?_
    show acode _ _ _ _ _
    refine A.R W0 [] [(1, hto (inc hx1 hb1))] [(6, .ptr 3006 0), (7, .lst true (ml eGChange ([vx_3.1, vx_4.1, raw] : List GChange))), (8, .int .i64 ((j1 + 1 : Nat) : Int))] [(500000600, .slice 42 2 (ml eGRouter vx_2.1.Routers) (ml eGRouter vx_2.1.Routers).length true), (500000601, .slice 44 5 (ml eGLink vx_2.1.Links) (ml eGLink vx_2.1.Links).length true), (3006, .cells 30 [.own 500000600, .own 500000601])] (by kernel_rfl) ?_
    exact Exists.intro () (And.intro hm (Weak.go [] [] (by kernel_rfl)))
  rintro j1 ⟨⟩ hj1 hl1 hm
  rw [hK1] at hm
  refine A.seq ?_
  refine A.RS W0 [] [(2, hto (lnE eGChange ([vx_3.1, vx_4.1, raw] : List GChange)))] [(6, .ptr 3006 0), (7, .lst true (ml eGChange ([vx_3.1, vx_4.1, raw] : List GChange))), (8, .int .i64 (j1 : Int)), (28, .bool (decide ((j1 : Int) < (([vx_3.1, vx_4.1, raw] : List GChange).length:Int))))] [(500000600, .slice 42 2 (ml eGRouter vx_2.1.Routers) (ml eGRouter vx_2.1.Routers).length true), (500000601, .slice 44 5 (ml eGLink vx_2.1.Links) (ml eGLink vx_2.1.Links).length true), (3006, .cells 30 [.own 500000600, .own 500000601])] (by kernel_rfl) ?_
  refine A.cF rfl (ltF hl1) ?_
  refine A.exit ?_
  show acode _ _ _ _ _
  obtain ⟨vx_9, h9, hm⟩ := bnd_some hm
  refine A.RS W0 [] [(0, hro (m_law05_awake_ok h9) ck12)] [(4, .bool vx_9)] [] (by kernel_rfl) ?_
  refine A.ret ?_
  obtain rfl := some_inj hm
  exact A.fin W0 [] rfl (by kernel_rfl)
end Go.Proofs.Ytckhladakpjlgaa
