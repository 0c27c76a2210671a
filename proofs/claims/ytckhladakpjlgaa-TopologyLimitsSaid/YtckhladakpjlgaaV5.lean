/- The walks of functions of the program. No condition but those that stand in each. -/
import Derived.Test.YtckhladakpjlgaaD5
import Derived.Test.YtckhladakpjlgaaV4
import Derived.Test.YtckhladakpjlgaaS
import Derived.Test.YtckhladakpjlgaaSO
namespace Go.Proofs.Ytckhladakpjlgaa
open Go
set_option maxRecDepth 100000
set_option linter.all false
theorem m_topology_neighbours_ok {t : GTopology} {router : Int} {r : (List Int)} (hm : m_topology_neighbours t router = some r) : RO Try.prog 60 [] [.agg [.lst false (ml eGRouter t.Routers), .lst false (ml eGLink t.Links)], .int .i64 router] (.lst false (ml eInt r)) := by
  refine enterA Try.func60 rfl rfl ?_
  unfold m_topology_neighbours at hm
  refine A.RS W0 [] [(0, .al 60002)] [(1, .int .i64 router), (2, .ptr 60002 0)] [(60002, .cells 30 [.lst false (ml eGRouter t.Routers), .lst false (ml eGLink t.Links)])] (by kernel_rfl) ?_
  refine A.RS W0 [] [] [(1, .int .i64 router), (2, .ptr 60002 0), (5, .nils)] [(60002, .cells 30 [.lst false (ml eGRouter t.Routers), .lst false (ml eGLink t.Links)])] (by kernel_rfl) ?_
  refine A.seq ?_
  refine A.RS W0 [] [(2, hto (lnE eGLink t.Links))] [(1, .int .i64 router), (5, .nils), (9, .lst false (ml eGLink t.Links)), (10, .int .i64 (t.Links.length:Int)), (11, .int .i64 (0:Int))] [] (by kernel_rfl) ?_
  refine A.block ?_
  refine A.bS 9 rfl fun hb1 => ?_
  obtain ⟨B1, K1, hB1, hK1, hm⟩ := forI_some hm
  refine A.lpI (l := t.Links) (j0 := 0) (B := B1) (K := K1) hm (fun j1 => fun out_1 => [(1, .int .i64 router), (5, .own 600060005), (9, .lst false (ml eGLink t.Links)), (10, .int .i64 (t.Links.length:Int)), (11, .int .i64 (j1 : Int))]) (fun j1 => fun out_1 => [(600060005, .slice 3 1 (ml eInt out_1) 0 false)]) ?_ ?_ ?_
  · exact Weak.go [.ad 5 600060005 3 1] [] (by kernel_rfl)
  · skip
    rintro j1 e1 Z1 out_1 hj1 hx1 hm
    rw [hB1] at hm
    refine A.RS W0 [] [] [(1, .int .i64 router), (5, .own 600060005), (9, .lst false (ml eGLink t.Links)), (10, .int .i64 (t.Links.length:Int)), (11, .int .i64 (j1 : Int)), (12, .bool (decide ((j1 : Int) < (t.Links.length:Int))))] [(600060005, .slice 3 1 (ml eInt out_1) 0 false)] (by kernel_rfl) ?_
    refine A.seq ?_
    refine A.cT rfl (ltT hx1) ?_
    refine A.skip ?_
    show acode _ _ _ _ _
    obtain ⟨J1, hJ1, hm⟩ := jn_some hm
    refine A.J (J := J1) (r := r) (fun out_2 => [(1, .int .i64 router), (5, .own 600060005), (9, .lst false (ml eGLink t.Links)), (10, .int .i64 (t.Links.length:Int)), (11, .int .i64 (j1 : Int))]) (fun out_2 => [(600060005, .slice 3 1 (ml eInt out_2) 0 false)]) ?_ ?_
    · skip
      refine A.block ?_
      refine A.RS W0 [] [(0, hix (ix eGLink (elO_nat hx1))), (2, .al 60007)] [(1, .int .i64 router), (5, .own 600060005), (9, .lst false (ml eGLink t.Links)), (10, .int .i64 (t.Links.length:Int)), (11, .int .i64 (j1 : Int)), (7, .ptr 60007 0)] [(600060005, .slice 3 1 (ml eInt out_1) 0 false), (60007, .cells 44 [.int .i64 e1.A, .int .i64 e1.B, .int .i64 e1.CostA, .int .i64 e1.CostB, .int .i64 e1.Capacity])] (by kernel_rfl) ?_
      refine A.RS W0 [] [] [(1, .int .i64 router), (5, .own 600060005), (9, .lst false (ml eGLink t.Links)), (10, .int .i64 (t.Links.length:Int)), (11, .int .i64 (j1 : Int)), (7, .ptr 60007 0), (15, .int .i64 router)] [(600060005, .slice 3 1 (ml eInt out_1) 0 false), (60007, .cells 44 [.int .i64 e1.A, .int .i64 e1.B, .int .i64 e1.CostA, .int .i64 e1.CostB, .int .i64 e1.Capacity])] (by kernel_rfl) ?_
      refine A.block ?_
      refine A.RS W0 [] [] [(1, .int .i64 router), (5, .own 600060005), (9, .lst false (ml eGLink t.Links)), (10, .int .i64 (t.Links.length:Int)), (11, .int .i64 (j1 : Int)), (7, .ptr 60007 0), (15, .int .i64 router), (16, .bool (decide (router = e1.A)))] [(600060005, .slice 3 1 (ml eInt out_1) 0 false), (60007, .cells 44 [.int .i64 e1.A, .int .i64 e1.B, .int .i64 e1.CostA, .int .i64 e1.CostB, .int .i64 e1.Capacity])] (by kernel_rfl) ?_
      rcases cs_some hm with ⟨c1, hm⟩ | ⟨c1, hm⟩
      · skip
        refine A.cT rfl c1 ?_
        obtain ⟨l_1, h1, hm⟩ := bnd_some hm
        refine A.R W0 [] [(4, hap 60524 (ap eInt (bytes := 8) (by decide) h1))] [(1, .int .i64 router), (5, .own 60524), (9, .lst false (ml eGLink t.Links)), (10, .int .i64 (t.Links.length:Int)), (11, .int .i64 (j1 : Int))] [(60524, .slice 3 1 (ml eInt l_1) 0 false)] (by kernel_rfl) ?_
        exact Exists.intro l_1 (And.intro hm (Weak.go [.sw 60524 600060005] [] (by kernel_rfl)))
      refine A.cF rfl c1 ?_
      refine A.RS W0 [] [] [(1, .int .i64 router), (5, .own 600060005), (9, .lst false (ml eGLink t.Links)), (10, .int .i64 (t.Links.length:Int)), (11, .int .i64 (j1 : Int)), (7, .ptr 60007 0), (25, .bool (decide (router = e1.B)))] [(600060005, .slice 3 1 (ml eInt out_1) 0 false), (60007, .cells 44 [.int .i64 e1.A, .int .i64 e1.B, .int .i64 e1.CostA, .int .i64 e1.CostB, .int .i64 e1.Capacity])] (by kernel_rfl) ?_
      rcases cs_some hm with ⟨c2, hm⟩ | ⟨c2, hm⟩
      · skip
        refine A.cT rfl c2 ?_
        obtain ⟨l_2, h2, hm⟩ := bnd_some hm
        refine A.R W0 [] [(4, hap 60533 (ap eInt (bytes := 8) (by decide) h2))] [(1, .int .i64 router), (5, .own 60533), (9, .lst false (ml eGLink t.Links)), (10, .int .i64 (t.Links.length:Int)), (11, .int .i64 (j1 : Int))] [(60533, .slice 3 1 (ml eInt l_2) 0 false)] (by kernel_rfl) ?_
        exact Exists.intro l_2 (And.intro hm (Weak.go [.sw 60533 600060005] [] (by kernel_rfl)))
      refine A.cF rfl c2 ?_
      refine A.skip ?_
      exact Exists.intro out_1 (And.intro hm (Weak.go [] [] (by kernel_rfl)))
    rintro out_2 hm
    rw [hJ1] at hm
    refine A.R W0 [] [(0, hto (inc hx1 hb1))] [(1, .int .i64 router), (5, .own 600060005), (9, .lst false (ml eGLink t.Links)), (10, .int .i64 (t.Links.length:Int)), (11, .int .i64 ((j1 + 1 : Nat) : Int))] [(600060005, .slice 3 1 (ml eInt out_2) 0 false)] (by kernel_rfl) ?_
    exact Exists.intro out_2 (And.intro hm (Weak.go [] [] (by kernel_rfl)))
  rintro j1 out_1 hj1 hl1 hm
  rw [hK1] at hm
  refine A.RS W0 [] [] [(1, .int .i64 router), (5, .own 600060005), (9, .lst false (ml eGLink t.Links)), (10, .int .i64 (t.Links.length:Int)), (11, .int .i64 (j1 : Int)), (12, .bool (decide ((j1 : Int) < (t.Links.length:Int))))] [(600060005, .slice 3 1 (ml eInt out_1) 0 false)] (by kernel_rfl) ?_
  refine A.seq ?_
  refine A.cF rfl (ltF hl1) ?_
  refine A.exit ?_
  show acode _ _ _ _ _
  obtain ⟨h3, hm⟩ := chk_some hm
  refine A.RS W0 [] [(1, hdc [] (sort_own (d := 600060005) (T := 3) out_1 (of_decide_eq_true h3)) ck65)] [(5, .own 600060005)] [(600060005, .slice 3 1 (ml eInt (sortI out_1)) 0 false)] (by kernel_rfl) ?_
  refine A.RS W0 [] [] [(4, .own 600060005)] [(600060005, .slice 3 1 (ml eInt (sortI out_1)) 0 false)] (by kernel_rfl) ?_
  refine A.ret ?_
  obtain rfl := some_inj hm
  exact A.fin W0 [.fz [600060005]] rfl (by kernel_rfl)
theorem m_topology_reached_1_ok : ∀ (n_ : Nat) {ra0 : Int} {c0_0 : List Int} {c1_0 : List Int} {c2_0 : List GRouter} {c2_1 : List GLink} {r : (List Int)} (hm : m_topology_reached_1 n_ ra0 c0_0 c1_0 c2_0 c2_1 = some r), SCalls Try.prog 64 [(800064000, .cells 22 [.own 800064500]), (800064001, .cells 22 [.lst false (ml eInt c1_0)]), (800064002, .cells 30 [.lst false (ml eGRouter c2_0), .lst false (ml eGLink c2_1)]), (800064003, .cells 93 [.fn 64 [.ptr 800064000 0, .ptr 800064001 0, .ptr 800064002 0, .ptr 800064003 0]]), (800064500, .slice 3 1 (ml eInt c0_0) 0 false)] [.int .i64 ra0, .ptr 800064000 0, .ptr 800064001 0, .ptr 800064002 0, .ptr 800064003 0] (fun a σ' => a = .tup [] ∧ σ' = [(800064000, .cells 22 [.own 800064501]), (800064001, .cells 22 [.lst false (ml eInt c1_0)]), (800064002, .cells 30 [.lst false (ml eGRouter c2_0), .lst false (ml eGLink c2_1)]), (800064003, .cells 93 [.fn 64 [.ptr 800064000 0, .ptr 800064001 0, .ptr 800064002 0, .ptr 800064003 0]]), (800064501, .slice 3 1 (ml eInt r) 0 false)]) := by
  intro n_
  induction n_ with
  | zero => intros; rename_i hm; cases hm
  | succ n_ ih =>
  intro ra0 c0_0 c1_0 c2_0 c2_1 r hm
  refine enterA Try.func64 rfl rfl ?_
  rw [m_topology_reached_1] at hm
  refine A.seq ?_
  obtain ⟨J1, hJ1, hm⟩ := jn_some hm
  refine A.J (J := J1) (r := r) (fun v_1 => [(0, .int .i64 ra0), (1, .ptr 800064000 0), (3, .ptr 800064002 0), (4, .ptr 800064003 0), (15, .bool v_1)]) (fun v_1 => [(800064000, .cells 22 [.own 800064500]), (800064001, .cells 22 [.lst false (ml eInt c1_0)]), (800064002, .cells 30 [.lst false (ml eGRouter c2_0), .lst false (ml eGLink c2_1)]), (800064003, .cells 93 [.fn 64 [.ptr 800064000 0, .ptr 800064001 0, .ptr 800064002 0, .ptr 800064003 0]]), (800064500, .slice 3 1 (ml eInt c0_0) 0 false)]) ?_ ?_
  · skip
    obtain ⟨vx_1, h1, hm⟩ := bnd_some hm
    rcases cs_some hm with ⟨c1, hm⟩ | ⟨c1, hm⟩
    · skip
      refine A.R W0 [] [(2, hle [800064500] (m_slices_Contains_Lint_int_ok h1) ck57), (3, hto (bE c1))] [(0, .int .i64 ra0), (1, .ptr 800064000 0), (3, .ptr 800064002 0), (4, .ptr 800064003 0), (15, .bool true)] [(800064000, .cells 22 [.own 800064500]), (800064001, .cells 22 [.lst false (ml eInt c1_0)]), (800064002, .cells 30 [.lst false (ml eGRouter c2_0), .lst false (ml eGLink c2_1)]), (800064003, .cells 93 [.fn 64 [.ptr 800064000 0, .ptr 800064001 0, .ptr 800064002 0, .ptr 800064003 0]]), (800064500, .slice 3 1 (ml eInt c0_0) 0 false)] (by kernel_rfl) ?_
      exact Exists.intro true (And.intro hm (Weak.go [] [] (by kernel_rfl)))
    obtain ⟨vx_2, h2, hm⟩ := bnd_some hm
    refine A.R W0 [] [(2, hle [800064500] (m_slices_Contains_Lint_int_ok h1) ck57), (3, hto (bE c1)), (6, hro (m_slices_Contains_Lint_int_ok h2) ck57)] [(0, .int .i64 ra0), (1, .ptr 800064000 0), (3, .ptr 800064002 0), (4, .ptr 800064003 0), (15, .bool vx_2)] [(800064000, .cells 22 [.own 800064500]), (800064001, .cells 22 [.lst false (ml eInt c1_0)]), (800064002, .cells 30 [.lst false (ml eGRouter c2_0), .lst false (ml eGLink c2_1)]), (800064003, .cells 93 [.fn 64 [.ptr 800064000 0, .ptr 800064001 0, .ptr 800064002 0, .ptr 800064003 0]]), (800064500, .slice 3 1 (ml eInt c0_0) 0 false)] (by kernel_rfl) ?_
    exact Exists.intro vx_2 (And.intro hm (Weak.go [] [] (by kernel_rfl)))
  rintro v_1 hm
  rw [hJ1] at hm
  rcases cs_some hm with ⟨c2, hm⟩ | ⟨c2, hm⟩
  · skip
    refine A.cT rfl c2 ?_
    refine A.ret ?_
    obtain rfl := some_inj hm
    exact A.fin W0 [.rn 800064500 800064501] rfl (by kernel_rfl)
  refine A.cF rfl c2 ?_
  refine A.skip ?_
  show acode _ _ _ _ _
  obtain ⟨l_1, h3, hm⟩ := bnd_some hm
  refine A.RS W0 [] [(3, hap 64519 (ap eInt (bytes := 8) (by decide) h3))] [(0, .int .i64 ra0), (3, .ptr 800064002 0), (4, .ptr 800064003 0)] [(800064000, .cells 22 [.own 64519]), (800064001, .cells 22 [.lst false (ml eInt c1_0)]), (800064002, .cells 30 [.lst false (ml eGRouter c2_0), .lst false (ml eGLink c2_1)]), (800064003, .cells 93 [.fn 64 [.ptr 800064000 0, .ptr 800064001 0, .ptr 800064002 0, .ptr 800064003 0]]), (64519, .slice 3 1 (ml eInt l_1) 0 false)] (by kernel_rfl) ?_
  obtain ⟨vx_3, h4, hm⟩ := bnd_some hm
  refine A.RS W0 [] [(2, hro (m_topology_neighbours_ok h4) ck60), (3, hto (lnE eInt vx_3))] [(4, .ptr 800064003 0), (22, .lst false (ml eInt vx_3)), (23, .int .i64 (vx_3.length:Int)), (24, .int .i64 (0:Int))] [(800064000, .cells 22 [.own 64519]), (800064001, .cells 22 [.lst false (ml eInt c1_0)]), (800064002, .cells 30 [.lst false (ml eGRouter c2_0), .lst false (ml eGLink c2_1)]), (800064003, .cells 93 [.fn 64 [.ptr 800064000 0, .ptr 800064001 0, .ptr 800064002 0, .ptr 800064003 0]]), (64519, .slice 3 1 (ml eInt l_1) 0 false)] (by kernel_rfl) ?_
  refine A.block ?_
  refine A.bS 22 rfl fun hb1 => ?_
  obtain ⟨B1, K1, hB1, hK1, hm⟩ := forI_some hm
  refine A.lpI (l := vx_3) (j0 := 0) (B := B1) (K := K1) hm (fun j1 => fun m_1 => [(4, .ptr 800064003 0), (22, .lst false (ml eInt vx_3)), (23, .int .i64 (vx_3.length:Int)), (24, .int .i64 (j1 : Int))]) (fun j1 => fun m_1 => [(800064000, .cells 22 [.own 706400000]), (800064001, .cells 22 [.lst false (ml eInt c1_0)]), (800064002, .cells 30 [.lst false (ml eGRouter c2_0), .lst false (ml eGLink c2_1)]), (800064003, .cells 93 [.fn 64 [.ptr 800064000 0, .ptr 800064001 0, .ptr 800064002 0, .ptr 800064003 0]]), (706400000, .slice 3 1 (ml eInt m_1) 0 false)]) ?_ ?_ ?_
  · exact Weak.go [.sw 64519 706400000] [] (by kernel_rfl)
  · skip
    rintro j1 e1 Z1 m_1 hj1 hx1 hm
    rw [hB1] at hm
    refine A.RS W0 [] [] [(4, .ptr 800064003 0), (22, .lst false (ml eInt vx_3)), (23, .int .i64 (vx_3.length:Int)), (24, .int .i64 (j1 : Int)), (25, .bool (decide ((j1 : Int) < (vx_3.length:Int))))] [(800064000, .cells 22 [.own 706400000]), (800064001, .cells 22 [.lst false (ml eInt c1_0)]), (800064002, .cells 30 [.lst false (ml eGRouter c2_0), .lst false (ml eGLink c2_1)]), (800064003, .cells 93 [.fn 64 [.ptr 800064000 0, .ptr 800064001 0, .ptr 800064002 0, .ptr 800064003 0]]), (706400000, .slice 3 1 (ml eInt m_1) 0 false)] (by kernel_rfl) ?_
    refine A.seq ?_
    refine A.cT rfl (ltT hx1) ?_
    refine A.skip ?_
    show acode _ _ _ _ _
    refine A.seq ?_
    refine A.block ?_
    refine A.RS W0 [] [(0, hix (ix eInt (elO_nat hx1)))] [(4, .ptr 800064003 0), (22, .lst false (ml eInt vx_3)), (23, .int .i64 (vx_3.length:Int)), (24, .int .i64 (j1 : Int)), (7, .int .i64 e1)] [(800064000, .cells 22 [.own 706400000]), (800064001, .cells 22 [.lst false (ml eInt c1_0)]), (800064002, .cells 30 [.lst false (ml eGRouter c2_0), .lst false (ml eGLink c2_1)]), (800064003, .cells 93 [.fn 64 [.ptr 800064000 0, .ptr 800064001 0, .ptr 800064002 0, .ptr 800064003 0]]), (706400000, .slice 3 1 (ml eInt m_1) 0 false)] (by kernel_rfl) ?_
    obtain ⟨vx_4, h5, hm⟩ := bnd_some hm
    refine A.R W0 [] [(2, hdc [520064001] (SC.at [(800064500, 706400000), (800064501, 520064001)] (ih h5)) ck64)] [(4, .ptr 800064003 0), (22, .lst false (ml eInt vx_3)), (23, .int .i64 (vx_3.length:Int)), (24, .int .i64 (j1 : Int))] [(800064000, .cells 22 [.own 520064001]), (800064001, .cells 22 [.lst false (ml eInt c1_0)]), (800064002, .cells 30 [.lst false (ml eGRouter c2_0), .lst false (ml eGLink c2_1)]), (800064003, .cells 93 [.fn 64 [.ptr 800064000 0, .ptr 800064001 0, .ptr 800064002 0, .ptr 800064003 0]]), (520064001, .slice 3 1 (ml eInt vx_4) 0 false)] (by kernel_rfl) ?_
    show acode _ _ _ _ _
    refine A.R W0 [] [(0, hto (inc hx1 hb1))] [(4, .ptr 800064003 0), (22, .lst false (ml eInt vx_3)), (23, .int .i64 (vx_3.length:Int)), (24, .int .i64 ((j1 + 1 : Nat) : Int))] [(800064000, .cells 22 [.own 520064001]), (800064001, .cells 22 [.lst false (ml eInt c1_0)]), (800064002, .cells 30 [.lst false (ml eGRouter c2_0), .lst false (ml eGLink c2_1)]), (800064003, .cells 93 [.fn 64 [.ptr 800064000 0, .ptr 800064001 0, .ptr 800064002 0, .ptr 800064003 0]]), (520064001, .slice 3 1 (ml eInt vx_4) 0 false)] (by kernel_rfl) ?_
    exact Exists.intro vx_4 (And.intro hm (Weak.go [.sw 520064001 706400000] [] (by kernel_rfl)))
  rintro j1 m_1 hj1 hl1 hm
  rw [hK1] at hm
  refine A.RS W0 [] [] [(4, .ptr 800064003 0), (22, .lst false (ml eInt vx_3)), (23, .int .i64 (vx_3.length:Int)), (24, .int .i64 (j1 : Int)), (25, .bool (decide ((j1 : Int) < (vx_3.length:Int))))] [(800064000, .cells 22 [.own 706400000]), (800064001, .cells 22 [.lst false (ml eInt c1_0)]), (800064002, .cells 30 [.lst false (ml eGRouter c2_0), .lst false (ml eGLink c2_1)]), (800064003, .cells 93 [.fn 64 [.ptr 800064000 0, .ptr 800064001 0, .ptr 800064002 0, .ptr 800064003 0]]), (706400000, .slice 3 1 (ml eInt m_1) 0 false)] (by kernel_rfl) ?_
  refine A.seq ?_
  refine A.cF rfl (ltF hl1) ?_
  refine A.exit ?_
  obtain rfl := some_inj hm
  exact A.fin W0 [.sw 706400000 800064501] rfl (by kernel_rfl)
theorem m_topology_reached_ok {t : GTopology} {froma1 : Int} {closed : List Int} {r : (List Int)} (hm : m_topology_reached t froma1 closed = some r) : RO Try.prog 58 [] [.agg [.lst false (ml eGRouter t.Routers), .lst false (ml eGLink t.Links)], .int .i64 froma1, .lst false (ml eInt closed)] (.lst false (ml eInt r)) := by
  refine enterA Try.func58 rfl rfl ?_
  unfold m_topology_reached at hm
  refine A.RS W0 [] [(0, .al 58003), (1, .al 58005)] [(1, .int .i64 froma1), (3, .ptr 58003 0), (5, .ptr 58005 0)] [(58003, .cells 30 [.lst false (ml eGRouter t.Routers), .lst false (ml eGLink t.Links)]), (58005, .cells 22 [.lst false (ml eInt closed)])] (by kernel_rfl) ?_
  refine A.RS W0 [] [(0, .al 58007)] [(1, .int .i64 froma1), (3, .ptr 58003 0), (5, .ptr 58005 0), (7, .ptr 58007 0)] [(58003, .cells 30 [.lst false (ml eGRouter t.Routers), .lst false (ml eGLink t.Links)]), (58005, .cells 22 [.lst false (ml eInt closed)]), (58007, .cells 22 [.nils])] (by kernel_rfl) ?_
  refine A.RS W0 [] [(0, .al 58008)] [(1, .int .i64 froma1), (3, .ptr 58003 0), (5, .ptr 58005 0), (7, .ptr 58007 0), (8, .ptr 58008 0)] [(58003, .cells 30 [.lst false (ml eGRouter t.Routers), .lst false (ml eGLink t.Links)]), (58005, .cells 22 [.lst false (ml eInt closed)]), (58007, .cells 22 [.nils]), (58008, .cells 93 [.junk])] (by kernel_rfl) ?_
  refine A.RS W0 [] [] [(1, .int .i64 froma1), (7, .ptr 58007 0), (8, .ptr 58008 0)] [(58003, .cells 30 [.lst false (ml eGRouter t.Routers), .lst false (ml eGLink t.Links)]), (58005, .cells 22 [.lst false (ml eInt closed)]), (58007, .cells 22 [.nils]), (58008, .cells 93 [.fn 64 [.ptr 58007 0, .ptr 58005 0, .ptr 58003 0, .ptr 58008 0]])] (by kernel_rfl) ?_
  obtain ⟨vx_1, h1, hm⟩ := bnd_some hm
  refine A.RS W0 [.ac 58007 800064500 3 1 0] [(2, hdc [520058001] (SC.at [(800064000, 58007), (800064001, 58005), (800064002, 58003), (800064003, 58008), (800064501, 520058001)] (m_topology_reached_1_ok fuel h1)) ck64)] [(7, .ptr 58007 0)] [(58007, .cells 22 [.own 520058001]), (520058001, .slice 3 1 (ml eInt vx_1) 0 false)] (by kernel_rfl) ?_
  obtain ⟨h2, hm⟩ := chk_some hm
  refine A.RS W0 [] [(1, hdc [] (sort_own (d := 520058001) (T := 3) vx_1 (of_decide_eq_true h2)) ck65)] [(7, .ptr 58007 0)] [(58007, .cells 22 [.own 520058001]), (520058001, .slice 3 1 (ml eInt (sortI vx_1)) 0 false)] (by kernel_rfl) ?_
  refine A.RS W0 [] [] [(6, .own 520058001)] [(520058001, .slice 3 1 (ml eInt (sortI vx_1)) 0 false)] (by kernel_rfl) ?_
  refine A.ret ?_
  obtain rfl := some_inj hm
  exact A.fin W0 [.fz [520058001]] rfl (by kernel_rfl)
theorem m_topology_Bridges_ok {t : GTopology} {r : (List GHop)} (hm : m_topology_Bridges t = some r) : RO Try.prog 42 [] [.agg [.lst false (ml eGRouter t.Routers), .lst false (ml eGLink t.Links)]] (.lst false (ml eGHop r)) := by
  refine enterA Try.func42 rfl rfl ?_
  unfold m_topology_Bridges at hm
  refine A.RS W0 [] [(0, .al 42001)] [(1, .ptr 42001 0)] [(42001, .cells 30 [.lst false (ml eGRouter t.Routers), .lst false (ml eGLink t.Links)])] (by kernel_rfl) ?_
  refine A.seq ?_
  obtain ⟨vx_1, h1, hm⟩ := bnd_some hm
  refine A.RS W0 [] [(1, hro (m_topology_valid_ok h1) ck19)] [(1, .ptr 42001 0), (9, .bool (!vx_1))] [(42001, .cells 30 [.lst false (ml eGRouter t.Routers), .lst false (ml eGLink t.Links)])] (by kernel_rfl) ?_
  rcases cs_some hm with ⟨c1, hm⟩ | ⟨c1, hm⟩
  · skip
    refine A.cT rfl c1 ?_
    refine A.RS W0 [] [] [(2, .nils)] [] (by kernel_rfl) ?_
    refine A.ret ?_
    obtain rfl := some_inj hm
    exact A.fin W0 [] rfl (by kernel_rfl)
  refine A.cF rfl c1 ?_
  refine A.skip ?_
  show acode _ _ _ _ _
  refine A.RS W0 [] [] [(1, .ptr 42001 0), (3, .nils)] [(42001, .cells 30 [.lst false (ml eGRouter t.Routers), .lst false (ml eGLink t.Links)])] (by kernel_rfl) ?_
  refine A.seq ?_
  refine A.RS W0 [] [(2, hto (lnE eGLink t.Links))] [(1, .ptr 42001 0), (3, .nils), (11, .lst false (ml eGLink t.Links)), (12, .int .i64 (t.Links.length:Int)), (13, .int .i64 (0:Int))] [(42001, .cells 30 [.lst false (ml eGRouter t.Routers), .lst false (ml eGLink t.Links)])] (by kernel_rfl) ?_
  refine A.block ?_
  refine A.bS 11 rfl fun hb1 => ?_
  obtain ⟨B1, K1, hB1, hK1, hm⟩ := forI_some hm
  refine A.lpI (l := t.Links) (j0 := 0) (B := B1) (K := K1) hm (fun j1 => fun out_1 => [(1, .ptr 42001 0), (3, .own 600042003), (11, .lst false (ml eGLink t.Links)), (12, .int .i64 (t.Links.length:Int)), (13, .int .i64 (j1 : Int))]) (fun j1 => fun out_1 => [(42001, .cells 30 [.lst false (ml eGRouter t.Routers), .lst false (ml eGLink t.Links)]), (600042003, .slice 66 2 (ml eGHop out_1) 0 false)]) ?_ ?_ ?_
  · exact Weak.go [.ad 3 600042003 66 2] [] (by kernel_rfl)
  · skip
    rintro j1 e1 Z1 out_1 hj1 hx1 hm
    rw [hB1] at hm
    refine A.RS W0 [] [] [(1, .ptr 42001 0), (3, .own 600042003), (11, .lst false (ml eGLink t.Links)), (12, .int .i64 (t.Links.length:Int)), (13, .int .i64 (j1 : Int)), (14, .bool (decide ((j1 : Int) < (t.Links.length:Int))))] [(42001, .cells 30 [.lst false (ml eGRouter t.Routers), .lst false (ml eGLink t.Links)]), (600042003, .slice 66 2 (ml eGHop out_1) 0 false)] (by kernel_rfl) ?_
    refine A.seq ?_
    refine A.cT rfl (ltT hx1) ?_
    refine A.skip ?_
    show acode _ _ _ _ _
    obtain ⟨J1, hJ1, hm⟩ := jn_some hm
    refine A.J (J := J1) (r := r) (fun out_2 => [(1, .ptr 42001 0), (3, .own 600042003), (11, .lst false (ml eGLink t.Links)), (12, .int .i64 (t.Links.length:Int)), (13, .int .i64 (j1 : Int))]) (fun out_2 => [(42001, .cells 30 [.lst false (ml eGRouter t.Routers), .lst false (ml eGLink t.Links)]), (600042003, .slice 66 2 (ml eGHop out_2) 0 false)]) ?_ ?_
    · skip
      refine A.block ?_
      refine A.RS W0 [] [(0, hix (ix eGLink (elO_nat hx1))), (2, .al 42005)] [(1, .ptr 42001 0), (3, .own 600042003), (11, .lst false (ml eGLink t.Links)), (12, .int .i64 (t.Links.length:Int)), (13, .int .i64 (j1 : Int)), (5, .ptr 42005 0)] [(42001, .cells 30 [.lst false (ml eGRouter t.Routers), .lst false (ml eGLink t.Links)]), (600042003, .slice 66 2 (ml eGHop out_1) 0 false), (42005, .cells 44 [.int .i64 e1.A, .int .i64 e1.B, .int .i64 e1.CostA, .int .i64 e1.CostB, .int .i64 e1.Capacity])] (by kernel_rfl) ?_
      refine A.RS W0 [] [(5, .al 42006)] [(1, .ptr 42001 0), (3, .own 600042003), (11, .lst false (ml eGLink t.Links)), (12, .int .i64 (t.Links.length:Int)), (13, .int .i64 (j1 : Int)), (5, .ptr 42005 0), (6, .ptr 42006 0)] [(42001, .cells 30 [.lst false (ml eGRouter t.Routers), .lst false (ml eGLink t.Links)]), (600042003, .slice 66 2 (ml eGHop out_1) 0 false), (42005, .cells 44 [.int .i64 e1.A, .int .i64 e1.B, .int .i64 e1.CostA, .int .i64 e1.CostB, .int .i64 e1.Capacity]), (42006, .cells 66 [.int .i64 e1.A, .int .i64 e1.B])] (by kernel_rfl) ?_
      obtain ⟨vx_2, h2, hm⟩ := bnd_some hm
      obtain ⟨vx_3, h3, hm⟩ := bnd_some hm
      obtain ⟨vx_4, h4, hm⟩ := bnd_some hm
      refine A.RS W0 [] [(4, hro (m_topology_Without_ok h2) ck59), (7, hro (m_topology_reached_ok h3) ck58), (10, hro (m_slices_Contains_Lint_int_ok h4) ck57)] [(1, .ptr 42001 0), (3, .own 600042003), (11, .lst false (ml eGLink t.Links)), (12, .int .i64 (t.Links.length:Int)), (13, .int .i64 (j1 : Int)), (6, .ptr 42006 0), (33, .bool (!vx_4))] [(42001, .cells 30 [.lst false (ml eGRouter t.Routers), .lst false (ml eGLink t.Links)]), (600042003, .slice 66 2 (ml eGHop out_1) 0 false), (42006, .cells 66 [.int .i64 e1.A, .int .i64 e1.B])] (by kernel_rfl) ?_
      rcases cs_some hm with ⟨c2, hm⟩ | ⟨c2, hm⟩
      · skip
        refine A.cT rfl c2 ?_
        obtain ⟨l_1, h5, hm⟩ := bnd_some hm
        refine A.R W0 [] [(3, hap 42537 (ap eGHop (bytes := 16) (by decide) h5))] [(1, .ptr 42001 0), (3, .own 42537), (11, .lst false (ml eGLink t.Links)), (12, .int .i64 (t.Links.length:Int)), (13, .int .i64 (j1 : Int))] [(42001, .cells 30 [.lst false (ml eGRouter t.Routers), .lst false (ml eGLink t.Links)]), (42537, .slice 66 2 (ml eGHop l_1) 0 false)] (by kernel_rfl) ?_
        exact Exists.intro l_1 (And.intro hm (Weak.go [.sw 42537 600042003] [] (by kernel_rfl)))
      refine A.cF rfl c2 ?_
      refine A.skip ?_
      exact Exists.intro out_1 (And.intro hm (Weak.go [] [] (by kernel_rfl)))
    rintro out_2 hm
    rw [hJ1] at hm
    refine A.R W0 [] [(0, hto (inc hx1 hb1))] [(1, .ptr 42001 0), (3, .own 600042003), (11, .lst false (ml eGLink t.Links)), (12, .int .i64 (t.Links.length:Int)), (13, .int .i64 ((j1 + 1 : Nat) : Int))] [(42001, .cells 30 [.lst false (ml eGRouter t.Routers), .lst false (ml eGLink t.Links)]), (600042003, .slice 66 2 (ml eGHop out_2) 0 false)] (by kernel_rfl) ?_
    exact Exists.intro out_2 (And.intro hm (Weak.go [] [] (by kernel_rfl)))
  rintro j1 out_1 hj1 hl1 hm
  rw [hK1] at hm
  refine A.RS W0 [] [] [(1, .ptr 42001 0), (3, .own 600042003), (11, .lst false (ml eGLink t.Links)), (12, .int .i64 (t.Links.length:Int)), (13, .int .i64 (j1 : Int)), (14, .bool (decide ((j1 : Int) < (t.Links.length:Int))))] [(42001, .cells 30 [.lst false (ml eGRouter t.Routers), .lst false (ml eGLink t.Links)]), (600042003, .slice 66 2 (ml eGHop out_1) 0 false)] (by kernel_rfl) ?_
  refine A.seq ?_
  refine A.cF rfl (ltF hl1) ?_
  refine A.exit ?_
  show acode _ _ _ _ _
  refine A.RS W0 [] [] [(2, .own 600042003)] [(600042003, .slice 66 2 (ml eGHop out_1) 0 false)] (by kernel_rfl) ?_
  refine A.ret ?_
  obtain rfl := some_inj hm
  exact A.fin W0 [.fz [600042003]] rfl (by kernel_rfl)
theorem m_topology_Cuts_ok {t : GTopology} {r : (List Int)} (hm : m_topology_Cuts t = some r) : RO Try.prog 45 [] [.agg [.lst false (ml eGRouter t.Routers), .lst false (ml eGLink t.Links)]] (.lst false (ml eInt r)) := by
  refine enterA Try.func45 rfl rfl ?_
  unfold m_topology_Cuts at hm
  refine A.RS W0 [] [(0, .al 45001)] [(1, .ptr 45001 0)] [(45001, .cells 30 [.lst false (ml eGRouter t.Routers), .lst false (ml eGLink t.Links)])] (by kernel_rfl) ?_
  refine A.seq ?_
  obtain ⟨vx_1, h1, hm⟩ := bnd_some hm
  refine A.RS W0 [] [(1, hro (m_topology_valid_ok h1) ck19)] [(1, .ptr 45001 0), (9, .bool (!vx_1))] [(45001, .cells 30 [.lst false (ml eGRouter t.Routers), .lst false (ml eGLink t.Links)])] (by kernel_rfl) ?_
  rcases cs_some hm with ⟨c1, hm⟩ | ⟨c1, hm⟩
  · skip
    refine A.cT rfl c1 ?_
    refine A.RS W0 [] [] [(2, .nils)] [] (by kernel_rfl) ?_
    refine A.ret ?_
    obtain rfl := some_inj hm
    exact A.fin W0 [] rfl (by kernel_rfl)
  refine A.cF rfl c1 ?_
  refine A.skip ?_
  show acode _ _ _ _ _
  refine A.RS W0 [] [] [(1, .ptr 45001 0), (3, .nils)] [(45001, .cells 30 [.lst false (ml eGRouter t.Routers), .lst false (ml eGLink t.Links)])] (by kernel_rfl) ?_
  refine A.seq ?_
  refine A.RS W0 [] [(2, hto (lnE eGRouter t.Routers))] [(1, .ptr 45001 0), (3, .nils), (11, .lst false (ml eGRouter t.Routers)), (12, .int .i64 (t.Routers.length:Int)), (13, .int .i64 (0:Int))] [(45001, .cells 30 [.lst false (ml eGRouter t.Routers), .lst false (ml eGLink t.Links)])] (by kernel_rfl) ?_
  refine A.block ?_
  refine A.bS 11 rfl fun hb1 => ?_
  obtain ⟨B1, K1, hB1, hK1, hm⟩ := forI_some hm
  refine A.lpI (l := t.Routers) (j0 := 0) (B := B1) (K := K1) hm (fun j1 => fun out_1 => [(1, .ptr 45001 0), (3, .own 600045003), (11, .lst false (ml eGRouter t.Routers)), (12, .int .i64 (t.Routers.length:Int)), (13, .int .i64 (j1 : Int))]) (fun j1 => fun out_1 => [(45001, .cells 30 [.lst false (ml eGRouter t.Routers), .lst false (ml eGLink t.Links)]), (600045003, .slice 3 1 (ml eInt out_1) 0 false)]) ?_ ?_ ?_
  · exact Weak.go [.ad 3 600045003 3 1] [] (by kernel_rfl)
  · skip
    rintro j1 e1 Z1 out_1 hj1 hx1 hm
    rw [hB1] at hm
    refine A.RS W0 [] [] [(1, .ptr 45001 0), (3, .own 600045003), (11, .lst false (ml eGRouter t.Routers)), (12, .int .i64 (t.Routers.length:Int)), (13, .int .i64 (j1 : Int)), (14, .bool (decide ((j1 : Int) < (t.Routers.length:Int))))] [(45001, .cells 30 [.lst false (ml eGRouter t.Routers), .lst false (ml eGLink t.Links)]), (600045003, .slice 3 1 (ml eInt out_1) 0 false)] (by kernel_rfl) ?_
    refine A.seq ?_
    refine A.cT rfl (ltT hx1) ?_
    refine A.skip ?_
    show acode _ _ _ _ _
    obtain ⟨J1, hJ1, hm⟩ := jn_some hm
    refine A.J (J := J1) (r := r) (fun out_2 => [(1, .ptr 45001 0), (3, .own 600045003), (11, .lst false (ml eGRouter t.Routers)), (12, .int .i64 (t.Routers.length:Int)), (13, .int .i64 (j1 : Int))]) (fun out_2 => [(45001, .cells 30 [.lst false (ml eGRouter t.Routers), .lst false (ml eGLink t.Links)]), (600045003, .slice 3 1 (ml eInt out_2) 0 false)]) ?_ ?_
    · skip
      refine A.block ?_
      refine A.RS W0 [] [(0, hix (ix eGRouter (elO_nat hx1))), (2, .al 45005)] [(1, .ptr 45001 0), (3, .own 600045003), (11, .lst false (ml eGRouter t.Routers)), (12, .int .i64 (t.Routers.length:Int)), (13, .int .i64 (j1 : Int)), (5, .ptr 45005 0)] [(45001, .cells 30 [.lst false (ml eGRouter t.Routers), .lst false (ml eGLink t.Links)]), (600045003, .slice 3 1 (ml eInt out_1) 0 false), (45005, .cells 42 [.int .i64 e1.ID, .bool e1.Capable])] (by kernel_rfl) ?_
      obtain ⟨vx_2, h2, hm⟩ := bnd_some hm
      refine A.RS W0 [] [(3, hro (m_topology_neighbours_ok h2) ck60)] [(1, .ptr 45001 0), (3, .own 600045003), (11, .lst false (ml eGRouter t.Routers)), (12, .int .i64 (t.Routers.length:Int)), (13, .int .i64 (j1 : Int)), (5, .ptr 45005 0), (6, .lst false (ml eInt vx_2))] [(45001, .cells 30 [.lst false (ml eGRouter t.Routers), .lst false (ml eGLink t.Links)]), (600045003, .slice 3 1 (ml eInt out_1) 0 false), (45005, .cells 42 [.int .i64 e1.ID, .bool e1.Capable])] (by kernel_rfl) ?_
      obtain ⟨J2, hJ2, hm⟩ := jn_some hm
      refine A.J (J := J2) (r := r) (fun v_1 => [(1, .ptr 45001 0), (3, .own 600045003), (5, .ptr 45005 0), (11, .lst false (ml eGRouter t.Routers)), (12, .int .i64 (t.Routers.length:Int)), (13, .int .i64 (j1 : Int)), (41, .bool v_1)]) (fun v_1 => [(45001, .cells 30 [.lst false (ml eGRouter t.Routers), .lst false (ml eGLink t.Links)]), (600045003, .slice 3 1 (ml eInt out_1) 0 false), (45005, .cells 42 [.int .i64 e1.ID, .bool e1.Capable])]) ?_ ?_
      · skip
        rcases cs_some hm with ⟨c2, hm⟩ | ⟨c2, hm⟩
        · skip
          obtain ⟨e_1, h3, hm⟩ := bnd_some hm
          obtain ⟨vx_3, h4, hm⟩ := bnd_some hm
          obtain ⟨vx_4, h5, hm⟩ := bnd_some hm
          refine A.R W0 [] [(1, hto (lnE eInt vx_2)), (3, hto (bE c2)), (6, hix (ix eInt h3)), (11, hro (m_topology_reached_ok h4) ck58), (12, hto (lnE eInt vx_3)), (16, hro (m_topology_reached_ok h5) ck58), (17, hto (lnE eInt vx_4))] [(1, .ptr 45001 0), (3, .own 600045003), (11, .lst false (ml eGRouter t.Routers)), (12, .int .i64 (t.Routers.length:Int)), (13, .int .i64 (j1 : Int)), (5, .ptr 45005 0), (41, .bool (!decide ((vx_3.length:Int) = w64 ((vx_4.length:Int) - (1:Int)))))] [(45001, .cells 30 [.lst false (ml eGRouter t.Routers), .lst false (ml eGLink t.Links)]), (600045003, .slice 3 1 (ml eInt out_1) 0 false), (45005, .cells 42 [.int .i64 e1.ID, .bool e1.Capable])] (by kernel_rfl) ?_
          exact Exists.intro (!decide ((vx_3.length:Int) = w64 ((vx_4.length:Int) - (1:Int)))) (And.intro hm (Weak.go [] [] (by kernel_rfl)))
        refine A.R W0 [] [(1, hto (lnE eInt vx_2)), (3, hto (bE c2))] [(1, .ptr 45001 0), (3, .own 600045003), (11, .lst false (ml eGRouter t.Routers)), (12, .int .i64 (t.Routers.length:Int)), (13, .int .i64 (j1 : Int)), (5, .ptr 45005 0), (41, .bool false)] [(45001, .cells 30 [.lst false (ml eGRouter t.Routers), .lst false (ml eGLink t.Links)]), (600045003, .slice 3 1 (ml eInt out_1) 0 false), (45005, .cells 42 [.int .i64 e1.ID, .bool e1.Capable])] (by kernel_rfl) ?_
        exact Exists.intro false (And.intro hm (Weak.go [] [] (by kernel_rfl)))
      rintro v_1 hm
      rw [hJ2] at hm
      rcases cs_some hm with ⟨c3, hm⟩ | ⟨c3, hm⟩
      · skip
        refine A.cT rfl c3 ?_
        obtain ⟨l_1, h6, hm⟩ := bnd_some hm
        refine A.R W0 [] [(4, hap 45546 (ap eInt (bytes := 8) (by decide) h6))] [(1, .ptr 45001 0), (3, .own 45546), (11, .lst false (ml eGRouter t.Routers)), (12, .int .i64 (t.Routers.length:Int)), (13, .int .i64 (j1 : Int))] [(45001, .cells 30 [.lst false (ml eGRouter t.Routers), .lst false (ml eGLink t.Links)]), (45546, .slice 3 1 (ml eInt l_1) 0 false)] (by kernel_rfl) ?_
        exact Exists.intro l_1 (And.intro hm (Weak.go [.sw 45546 600045003] [] (by kernel_rfl)))
      refine A.cF rfl c3 ?_
      refine A.skip ?_
      exact Exists.intro out_1 (And.intro hm (Weak.go [] [] (by kernel_rfl)))
    rintro out_2 hm
    rw [hJ1] at hm
    refine A.R W0 [] [(0, hto (inc hx1 hb1))] [(1, .ptr 45001 0), (3, .own 600045003), (11, .lst false (ml eGRouter t.Routers)), (12, .int .i64 (t.Routers.length:Int)), (13, .int .i64 ((j1 + 1 : Nat) : Int))] [(45001, .cells 30 [.lst false (ml eGRouter t.Routers), .lst false (ml eGLink t.Links)]), (600045003, .slice 3 1 (ml eInt out_2) 0 false)] (by kernel_rfl) ?_
    exact Exists.intro out_2 (And.intro hm (Weak.go [] [] (by kernel_rfl)))
  rintro j1 out_1 hj1 hl1 hm
  rw [hK1] at hm
  refine A.RS W0 [] [] [(1, .ptr 45001 0), (3, .own 600045003), (11, .lst false (ml eGRouter t.Routers)), (12, .int .i64 (t.Routers.length:Int)), (13, .int .i64 (j1 : Int)), (14, .bool (decide ((j1 : Int) < (t.Routers.length:Int))))] [(45001, .cells 30 [.lst false (ml eGRouter t.Routers), .lst false (ml eGLink t.Links)]), (600045003, .slice 3 1 (ml eInt out_1) 0 false)] (by kernel_rfl) ?_
  refine A.seq ?_
  refine A.cF rfl (ltF hl1) ?_
  refine A.exit ?_
  show acode _ _ _ _ _
  refine A.RS W0 [] [] [(2, .own 600045003)] [(600045003, .slice 3 1 (ml eInt out_1) 0 false)] (by kernel_rfl) ?_
  refine A.ret ?_
  obtain rfl := some_inj hm
  exact A.fin W0 [.fz [600045003]] rfl (by kernel_rfl)
end Go.Proofs.Ytckhladakpjlgaa
