/- The walks of functions of the program. No condition but those that stand in each. -/
import Derived.Test.YtggbjbcgfelgiaaD5
import Derived.Test.YtggbjbcgfelgiaaV4
import Derived.Test.YtggbjbcgfelgiaaS
import Derived.Test.YtggbjbcgfelgiaaSO
namespace Go.Proofs.Ytggbjbcgfelgiaa
open Go
set_option maxRecDepth 100000
set_option linter.all false
theorem m_topology_neighbours_ok {t : GTopology} {router : Int} {r : (List Int)} (hm : m_topology_neighbours t router = some r) : RO Try.prog 71 [] [.agg [.lst false (ml eGRouter t.Routers), .lst false (ml eGLink t.Links)], .int .i64 router] (.lst false (ml eInt r)) := by
  refine enterA Try.func71 rfl rfl ?_
  unfold m_topology_neighbours at hm
  refine A.RS W0 [] [(0, .al 71002)] [(1, .int .i64 router), (2, .ptr 71002 0)] [(71002, .cells 26 [.lst false (ml eGRouter t.Routers), .lst false (ml eGLink t.Links)])] (by kernel_rfl) ?_
  refine A.RS W0 [] [] [(1, .int .i64 router), (2, .ptr 71002 0), (5, .nils)] [(71002, .cells 26 [.lst false (ml eGRouter t.Routers), .lst false (ml eGLink t.Links)])] (by kernel_rfl) ?_
  refine A.seq ?_
  refine A.RS W0 [] [(2, hto (lnE eGLink t.Links))] [(1, .int .i64 router), (5, .nils), (9, .lst false (ml eGLink t.Links)), (10, .int .i64 (t.Links.length:Int)), (11, .int .i64 (0:Int))] [] (by kernel_rfl) ?_
  refine A.block ?_
  refine A.bS 9 rfl fun hb1 => ?_
  obtain ⟨B1, K1, hB1, hK1, hm⟩ := forI_some hm
  refine A.lpI (l := t.Links) (j0 := 0) (B := B1) (K := K1) hm (fun j1 => fun out_1 => [(1, .int .i64 router), (5, .own 600071005), (9, .lst false (ml eGLink t.Links)), (10, .int .i64 (t.Links.length:Int)), (11, .int .i64 (j1 : Int))]) (fun j1 => fun out_1 => [(600071005, .slice 3 1 (ml eInt out_1) 0 false)]) ?_ ?_ ?_
  · exact Weak.go [.ad 5 600071005 3 1] [] (by kernel_rfl)
  · skip
    rintro j1 e1 Z1 out_1 hj1 hx1 hm
    rw [hB1] at hm
    refine A.RS W0 [] [] [(1, .int .i64 router), (5, .own 600071005), (9, .lst false (ml eGLink t.Links)), (10, .int .i64 (t.Links.length:Int)), (11, .int .i64 (j1 : Int)), (12, .bool (decide ((j1 : Int) < (t.Links.length:Int))))] [(600071005, .slice 3 1 (ml eInt out_1) 0 false)] (by kernel_rfl) ?_
    refine A.seq ?_
    refine A.cT rfl (ltT hx1) ?_
    refine A.skip ?_
    show acode _ _ _ _ _
    obtain ⟨J1, hJ1, hm⟩ := jn_some hm
    refine A.J (J := J1) (r := r) (fun out_2 => [(1, .int .i64 router), (5, .own 600071005), (9, .lst false (ml eGLink t.Links)), (10, .int .i64 (t.Links.length:Int)), (11, .int .i64 (j1 : Int))]) (fun out_2 => [(600071005, .slice 3 1 (ml eInt out_2) 0 false)]) ?_ ?_
    · skip
      refine A.block ?_
      refine A.RS W0 [] [(0, hix (ix eGLink (elO_nat hx1))), (2, .al 71007)] [(1, .int .i64 router), (5, .own 600071005), (9, .lst false (ml eGLink t.Links)), (10, .int .i64 (t.Links.length:Int)), (11, .int .i64 (j1 : Int)), (7, .ptr 71007 0)] [(600071005, .slice 3 1 (ml eInt out_1) 0 false), (71007, .cells 50 [.int .i64 e1.A, .int .i64 e1.B, .int .i64 e1.CostA, .int .i64 e1.CostB, .int .i64 e1.Capacity])] (by kernel_rfl) ?_
      refine A.RS W0 [] [] [(1, .int .i64 router), (5, .own 600071005), (9, .lst false (ml eGLink t.Links)), (10, .int .i64 (t.Links.length:Int)), (11, .int .i64 (j1 : Int)), (7, .ptr 71007 0), (15, .int .i64 router)] [(600071005, .slice 3 1 (ml eInt out_1) 0 false), (71007, .cells 50 [.int .i64 e1.A, .int .i64 e1.B, .int .i64 e1.CostA, .int .i64 e1.CostB, .int .i64 e1.Capacity])] (by kernel_rfl) ?_
      refine A.block ?_
      refine A.RS W0 [] [] [(1, .int .i64 router), (5, .own 600071005), (9, .lst false (ml eGLink t.Links)), (10, .int .i64 (t.Links.length:Int)), (11, .int .i64 (j1 : Int)), (7, .ptr 71007 0), (15, .int .i64 router), (16, .bool (decide (router = e1.A)))] [(600071005, .slice 3 1 (ml eInt out_1) 0 false), (71007, .cells 50 [.int .i64 e1.A, .int .i64 e1.B, .int .i64 e1.CostA, .int .i64 e1.CostB, .int .i64 e1.Capacity])] (by kernel_rfl) ?_
      rcases cs_some hm with ⟨c1, hm⟩ | ⟨c1, hm⟩
      · skip
        refine A.cT rfl c1 ?_
        obtain ⟨l_1, h1, hm⟩ := bnd_some hm
        refine A.R W0 [] [(4, hap 71524 (ap eInt (bytes := 8) (by decide) h1))] [(1, .int .i64 router), (5, .own 71524), (9, .lst false (ml eGLink t.Links)), (10, .int .i64 (t.Links.length:Int)), (11, .int .i64 (j1 : Int))] [(71524, .slice 3 1 (ml eInt l_1) 0 false)] (by kernel_rfl) ?_
        exact Exists.intro l_1 (And.intro hm (Weak.go [.sw 71524 600071005] [] (by kernel_rfl)))
      refine A.cF rfl c1 ?_
      refine A.RS W0 [] [] [(1, .int .i64 router), (5, .own 600071005), (9, .lst false (ml eGLink t.Links)), (10, .int .i64 (t.Links.length:Int)), (11, .int .i64 (j1 : Int)), (7, .ptr 71007 0), (25, .bool (decide (router = e1.B)))] [(600071005, .slice 3 1 (ml eInt out_1) 0 false), (71007, .cells 50 [.int .i64 e1.A, .int .i64 e1.B, .int .i64 e1.CostA, .int .i64 e1.CostB, .int .i64 e1.Capacity])] (by kernel_rfl) ?_
      rcases cs_some hm with ⟨c2, hm⟩ | ⟨c2, hm⟩
      · skip
        refine A.cT rfl c2 ?_
        obtain ⟨l_2, h2, hm⟩ := bnd_some hm
        refine A.R W0 [] [(4, hap 71533 (ap eInt (bytes := 8) (by decide) h2))] [(1, .int .i64 router), (5, .own 71533), (9, .lst false (ml eGLink t.Links)), (10, .int .i64 (t.Links.length:Int)), (11, .int .i64 (j1 : Int))] [(71533, .slice 3 1 (ml eInt l_2) 0 false)] (by kernel_rfl) ?_
        exact Exists.intro l_2 (And.intro hm (Weak.go [.sw 71533 600071005] [] (by kernel_rfl)))
      refine A.cF rfl c2 ?_
      refine A.skip ?_
      exact Exists.intro out_1 (And.intro hm (Weak.go [] [] (by kernel_rfl)))
    rintro out_2 hm
    rw [hJ1] at hm
    refine A.R W0 [] [(0, hto (inc hx1 hb1))] [(1, .int .i64 router), (5, .own 600071005), (9, .lst false (ml eGLink t.Links)), (10, .int .i64 (t.Links.length:Int)), (11, .int .i64 ((j1 + 1 : Nat) : Int))] [(600071005, .slice 3 1 (ml eInt out_2) 0 false)] (by kernel_rfl) ?_
    exact Exists.intro out_2 (And.intro hm (Weak.go [] [] (by kernel_rfl)))
  rintro j1 out_1 hj1 hl1 hm
  rw [hK1] at hm
  refine A.RS W0 [] [] [(1, .int .i64 router), (5, .own 600071005), (9, .lst false (ml eGLink t.Links)), (10, .int .i64 (t.Links.length:Int)), (11, .int .i64 (j1 : Int)), (12, .bool (decide ((j1 : Int) < (t.Links.length:Int))))] [(600071005, .slice 3 1 (ml eInt out_1) 0 false)] (by kernel_rfl) ?_
  refine A.seq ?_
  refine A.cF rfl (ltF hl1) ?_
  refine A.exit ?_
  show acode _ _ _ _ _
  obtain ⟨h3, hm⟩ := chk_some hm
  refine A.RS W0 [] [(1, hdc [] (sort_own (d := 600071005) (T := 3) out_1 (of_decide_eq_true h3)) ck90)] [(5, .own 600071005)] [(600071005, .slice 3 1 (ml eInt (sortI out_1)) 0 false)] (by kernel_rfl) ?_
  refine A.RS W0 [] [] [(4, .own 600071005)] [(600071005, .slice 3 1 (ml eInt (sortI out_1)) 0 false)] (by kernel_rfl) ?_
  refine A.ret ?_
  obtain rfl := some_inj hm
  exact A.fin W0 [.fz [600071005]] rfl (by kernel_rfl)
theorem m_topology_reached_1_ok : ∀ (n_ : Nat) {ra0 : Int} {c0_0 : List Int} {c1_0 : List Int} {c2_0 : List GRouter} {c2_1 : List GLink} {r : (List Int)} (hm : m_topology_reached_1 n_ ra0 c0_0 c1_0 c2_0 c2_1 = some r), SCalls Try.prog 89 [(800089000, .cells 22 [.own 800089500]), (800089001, .cells 22 [.lst false (ml eInt c1_0)]), (800089002, .cells 26 [.lst false (ml eGRouter c2_0), .lst false (ml eGLink c2_1)]), (800089003, .cells 109 [.fn 89 [.ptr 800089000 0, .ptr 800089001 0, .ptr 800089002 0, .ptr 800089003 0]]), (800089500, .slice 3 1 (ml eInt c0_0) 0 false)] [.int .i64 ra0, .ptr 800089000 0, .ptr 800089001 0, .ptr 800089002 0, .ptr 800089003 0] (fun a σ' => a = .tup [] ∧ σ' = [(800089000, .cells 22 [.own 800089501]), (800089001, .cells 22 [.lst false (ml eInt c1_0)]), (800089002, .cells 26 [.lst false (ml eGRouter c2_0), .lst false (ml eGLink c2_1)]), (800089003, .cells 109 [.fn 89 [.ptr 800089000 0, .ptr 800089001 0, .ptr 800089002 0, .ptr 800089003 0]]), (800089501, .slice 3 1 (ml eInt r) 0 false)]) := by
  intro n_
  induction n_ with
  | zero => intros; rename_i hm; cases hm
  | succ n_ ih =>
  intro ra0 c0_0 c1_0 c2_0 c2_1 r hm
  refine enterA Try.func89 rfl rfl ?_
  rw [m_topology_reached_1] at hm
  refine A.seq ?_
  obtain ⟨J1, hJ1, hm⟩ := jn_some hm
  refine A.J (J := J1) (r := r) (fun v_1 => [(0, .int .i64 ra0), (1, .ptr 800089000 0), (3, .ptr 800089002 0), (4, .ptr 800089003 0), (15, .bool v_1)]) (fun v_1 => [(800089000, .cells 22 [.own 800089500]), (800089001, .cells 22 [.lst false (ml eInt c1_0)]), (800089002, .cells 26 [.lst false (ml eGRouter c2_0), .lst false (ml eGLink c2_1)]), (800089003, .cells 109 [.fn 89 [.ptr 800089000 0, .ptr 800089001 0, .ptr 800089002 0, .ptr 800089003 0]]), (800089500, .slice 3 1 (ml eInt c0_0) 0 false)]) ?_ ?_
  · skip
    obtain ⟨vx_1, h1, hm⟩ := bnd_some hm
    rcases cs_some hm with ⟨c1, hm⟩ | ⟨c1, hm⟩
    · skip
      refine A.R W0 [] [(2, hle [800089500] (m_slices_Contains_Lint_int_ok h1) ck68), (3, hto (bE c1))] [(0, .int .i64 ra0), (1, .ptr 800089000 0), (3, .ptr 800089002 0), (4, .ptr 800089003 0), (15, .bool true)] [(800089000, .cells 22 [.own 800089500]), (800089001, .cells 22 [.lst false (ml eInt c1_0)]), (800089002, .cells 26 [.lst false (ml eGRouter c2_0), .lst false (ml eGLink c2_1)]), (800089003, .cells 109 [.fn 89 [.ptr 800089000 0, .ptr 800089001 0, .ptr 800089002 0, .ptr 800089003 0]]), (800089500, .slice 3 1 (ml eInt c0_0) 0 false)] (by kernel_rfl) ?_
      exact Exists.intro true (And.intro hm (Weak.go [] [] (by kernel_rfl)))
    obtain ⟨vx_2, h2, hm⟩ := bnd_some hm
    refine A.R W0 [] [(2, hle [800089500] (m_slices_Contains_Lint_int_ok h1) ck68), (3, hto (bE c1)), (6, hro (m_slices_Contains_Lint_int_ok h2) ck68)] [(0, .int .i64 ra0), (1, .ptr 800089000 0), (3, .ptr 800089002 0), (4, .ptr 800089003 0), (15, .bool vx_2)] [(800089000, .cells 22 [.own 800089500]), (800089001, .cells 22 [.lst false (ml eInt c1_0)]), (800089002, .cells 26 [.lst false (ml eGRouter c2_0), .lst false (ml eGLink c2_1)]), (800089003, .cells 109 [.fn 89 [.ptr 800089000 0, .ptr 800089001 0, .ptr 800089002 0, .ptr 800089003 0]]), (800089500, .slice 3 1 (ml eInt c0_0) 0 false)] (by kernel_rfl) ?_
    exact Exists.intro vx_2 (And.intro hm (Weak.go [] [] (by kernel_rfl)))
  rintro v_1 hm
  rw [hJ1] at hm
  rcases cs_some hm with ⟨c2, hm⟩ | ⟨c2, hm⟩
  · skip
    refine A.cT rfl c2 ?_
    refine A.ret ?_
    obtain rfl := some_inj hm
    exact A.fin W0 [.rn 800089500 800089501] rfl (by kernel_rfl)
  refine A.cF rfl c2 ?_
  refine A.skip ?_
  show acode _ _ _ _ _
  obtain ⟨l_1, h3, hm⟩ := bnd_some hm
  refine A.RS W0 [] [(3, hap 89519 (ap eInt (bytes := 8) (by decide) h3))] [(0, .int .i64 ra0), (3, .ptr 800089002 0), (4, .ptr 800089003 0)] [(800089000, .cells 22 [.own 89519]), (800089001, .cells 22 [.lst false (ml eInt c1_0)]), (800089002, .cells 26 [.lst false (ml eGRouter c2_0), .lst false (ml eGLink c2_1)]), (800089003, .cells 109 [.fn 89 [.ptr 800089000 0, .ptr 800089001 0, .ptr 800089002 0, .ptr 800089003 0]]), (89519, .slice 3 1 (ml eInt l_1) 0 false)] (by kernel_rfl) ?_
  obtain ⟨vx_3, h4, hm⟩ := bnd_some hm
  refine A.RS W0 [] [(2, hro (m_topology_neighbours_ok h4) ck71), (3, hto (lnE eInt vx_3))] [(4, .ptr 800089003 0), (22, .lst false (ml eInt vx_3)), (23, .int .i64 (vx_3.length:Int)), (24, .int .i64 (0:Int))] [(800089000, .cells 22 [.own 89519]), (800089001, .cells 22 [.lst false (ml eInt c1_0)]), (800089002, .cells 26 [.lst false (ml eGRouter c2_0), .lst false (ml eGLink c2_1)]), (800089003, .cells 109 [.fn 89 [.ptr 800089000 0, .ptr 800089001 0, .ptr 800089002 0, .ptr 800089003 0]]), (89519, .slice 3 1 (ml eInt l_1) 0 false)] (by kernel_rfl) ?_
  refine A.block ?_
  refine A.bS 22 rfl fun hb1 => ?_
  obtain ⟨B1, K1, hB1, hK1, hm⟩ := forI_some hm
  refine A.lpI (l := vx_3) (j0 := 0) (B := B1) (K := K1) hm (fun j1 => fun m_1 => [(4, .ptr 800089003 0), (22, .lst false (ml eInt vx_3)), (23, .int .i64 (vx_3.length:Int)), (24, .int .i64 (j1 : Int))]) (fun j1 => fun m_1 => [(800089000, .cells 22 [.own 708900000]), (800089001, .cells 22 [.lst false (ml eInt c1_0)]), (800089002, .cells 26 [.lst false (ml eGRouter c2_0), .lst false (ml eGLink c2_1)]), (800089003, .cells 109 [.fn 89 [.ptr 800089000 0, .ptr 800089001 0, .ptr 800089002 0, .ptr 800089003 0]]), (708900000, .slice 3 1 (ml eInt m_1) 0 false)]) ?_ ?_ ?_
  · exact Weak.go [.sw 89519 708900000] [] (by kernel_rfl)
  · skip
    rintro j1 e1 Z1 m_1 hj1 hx1 hm
    rw [hB1] at hm
    refine A.RS W0 [] [] [(4, .ptr 800089003 0), (22, .lst false (ml eInt vx_3)), (23, .int .i64 (vx_3.length:Int)), (24, .int .i64 (j1 : Int)), (25, .bool (decide ((j1 : Int) < (vx_3.length:Int))))] [(800089000, .cells 22 [.own 708900000]), (800089001, .cells 22 [.lst false (ml eInt c1_0)]), (800089002, .cells 26 [.lst false (ml eGRouter c2_0), .lst false (ml eGLink c2_1)]), (800089003, .cells 109 [.fn 89 [.ptr 800089000 0, .ptr 800089001 0, .ptr 800089002 0, .ptr 800089003 0]]), (708900000, .slice 3 1 (ml eInt m_1) 0 false)] (by kernel_rfl) ?_
    refine A.seq ?_
    refine A.cT rfl (ltT hx1) ?_
    refine A.skip ?_
    show acode _ _ _ _ _
    refine A.seq ?_
    refine A.block ?_
    refine A.RS W0 [] [(0, hix (ix eInt (elO_nat hx1)))] [(4, .ptr 800089003 0), (22, .lst false (ml eInt vx_3)), (23, .int .i64 (vx_3.length:Int)), (24, .int .i64 (j1 : Int)), (7, .int .i64 e1)] [(800089000, .cells 22 [.own 708900000]), (800089001, .cells 22 [.lst false (ml eInt c1_0)]), (800089002, .cells 26 [.lst false (ml eGRouter c2_0), .lst false (ml eGLink c2_1)]), (800089003, .cells 109 [.fn 89 [.ptr 800089000 0, .ptr 800089001 0, .ptr 800089002 0, .ptr 800089003 0]]), (708900000, .slice 3 1 (ml eInt m_1) 0 false)] (by kernel_rfl) ?_
    obtain ⟨vx_4, h5, hm⟩ := bnd_some hm
    refine A.R W0 [] [(2, hdc [520089001] (SC.at [(800089500, 708900000), (800089501, 520089001)] (ih h5)) ck89)] [(4, .ptr 800089003 0), (22, .lst false (ml eInt vx_3)), (23, .int .i64 (vx_3.length:Int)), (24, .int .i64 (j1 : Int))] [(800089000, .cells 22 [.own 520089001]), (800089001, .cells 22 [.lst false (ml eInt c1_0)]), (800089002, .cells 26 [.lst false (ml eGRouter c2_0), .lst false (ml eGLink c2_1)]), (800089003, .cells 109 [.fn 89 [.ptr 800089000 0, .ptr 800089001 0, .ptr 800089002 0, .ptr 800089003 0]]), (520089001, .slice 3 1 (ml eInt vx_4) 0 false)] (by kernel_rfl) ?_
    show acode _ _ _ _ _
    refine A.R W0 [] [(0, hto (inc hx1 hb1))] [(4, .ptr 800089003 0), (22, .lst false (ml eInt vx_3)), (23, .int .i64 (vx_3.length:Int)), (24, .int .i64 ((j1 + 1 : Nat) : Int))] [(800089000, .cells 22 [.own 520089001]), (800089001, .cells 22 [.lst false (ml eInt c1_0)]), (800089002, .cells 26 [.lst false (ml eGRouter c2_0), .lst false (ml eGLink c2_1)]), (800089003, .cells 109 [.fn 89 [.ptr 800089000 0, .ptr 800089001 0, .ptr 800089002 0, .ptr 800089003 0]]), (520089001, .slice 3 1 (ml eInt vx_4) 0 false)] (by kernel_rfl) ?_
    exact Exists.intro vx_4 (And.intro hm (Weak.go [.sw 520089001 708900000] [] (by kernel_rfl)))
  rintro j1 m_1 hj1 hl1 hm
  rw [hK1] at hm
  refine A.RS W0 [] [] [(4, .ptr 800089003 0), (22, .lst false (ml eInt vx_3)), (23, .int .i64 (vx_3.length:Int)), (24, .int .i64 (j1 : Int)), (25, .bool (decide ((j1 : Int) < (vx_3.length:Int))))] [(800089000, .cells 22 [.own 708900000]), (800089001, .cells 22 [.lst false (ml eInt c1_0)]), (800089002, .cells 26 [.lst false (ml eGRouter c2_0), .lst false (ml eGLink c2_1)]), (800089003, .cells 109 [.fn 89 [.ptr 800089000 0, .ptr 800089001 0, .ptr 800089002 0, .ptr 800089003 0]]), (708900000, .slice 3 1 (ml eInt m_1) 0 false)] (by kernel_rfl) ?_
  refine A.seq ?_
  refine A.cF rfl (ltF hl1) ?_
  refine A.exit ?_
  obtain rfl := some_inj hm
  exact A.fin W0 [.sw 708900000 800089501] rfl (by kernel_rfl)
theorem m_topology_reached_ok {t : GTopology} {froma1 : Int} {closed : List Int} {r : (List Int)} (hm : m_topology_reached t froma1 closed = some r) : RO Try.prog 70 [] [.agg [.lst false (ml eGRouter t.Routers), .lst false (ml eGLink t.Links)], .int .i64 froma1, .lst false (ml eInt closed)] (.lst false (ml eInt r)) := by
  refine enterA Try.func70 rfl rfl ?_
  unfold m_topology_reached at hm
  refine A.RS W0 [] [(0, .al 70003), (1, .al 70005)] [(1, .int .i64 froma1), (3, .ptr 70003 0), (5, .ptr 70005 0)] [(70003, .cells 26 [.lst false (ml eGRouter t.Routers), .lst false (ml eGLink t.Links)]), (70005, .cells 22 [.lst false (ml eInt closed)])] (by kernel_rfl) ?_
  refine A.RS W0 [] [(0, .al 70007)] [(1, .int .i64 froma1), (3, .ptr 70003 0), (5, .ptr 70005 0), (7, .ptr 70007 0)] [(70003, .cells 26 [.lst false (ml eGRouter t.Routers), .lst false (ml eGLink t.Links)]), (70005, .cells 22 [.lst false (ml eInt closed)]), (70007, .cells 22 [.nils])] (by kernel_rfl) ?_
  refine A.RS W0 [] [(0, .al 70008)] [(1, .int .i64 froma1), (3, .ptr 70003 0), (5, .ptr 70005 0), (7, .ptr 70007 0), (8, .ptr 70008 0)] [(70003, .cells 26 [.lst false (ml eGRouter t.Routers), .lst false (ml eGLink t.Links)]), (70005, .cells 22 [.lst false (ml eInt closed)]), (70007, .cells 22 [.nils]), (70008, .cells 109 [.junk])] (by kernel_rfl) ?_
  refine A.RS W0 [] [] [(1, .int .i64 froma1), (7, .ptr 70007 0), (8, .ptr 70008 0)] [(70003, .cells 26 [.lst false (ml eGRouter t.Routers), .lst false (ml eGLink t.Links)]), (70005, .cells 22 [.lst false (ml eInt closed)]), (70007, .cells 22 [.nils]), (70008, .cells 109 [.fn 89 [.ptr 70007 0, .ptr 70005 0, .ptr 70003 0, .ptr 70008 0]])] (by kernel_rfl) ?_
  obtain ⟨vx_1, h1, hm⟩ := bnd_some hm
  refine A.RS W0 [.ac 70007 800089500 3 1 0] [(2, hdc [520070001] (SC.at [(800089000, 70007), (800089001, 70005), (800089002, 70003), (800089003, 70008), (800089501, 520070001)] (m_topology_reached_1_ok fuel h1)) ck89)] [(7, .ptr 70007 0)] [(70007, .cells 22 [.own 520070001]), (520070001, .slice 3 1 (ml eInt vx_1) 0 false)] (by kernel_rfl) ?_
  obtain ⟨h2, hm⟩ := chk_some hm
  refine A.RS W0 [] [(1, hdc [] (sort_own (d := 520070001) (T := 3) vx_1 (of_decide_eq_true h2)) ck90)] [(7, .ptr 70007 0)] [(70007, .cells 22 [.own 520070001]), (520070001, .slice 3 1 (ml eInt (sortI vx_1)) 0 false)] (by kernel_rfl) ?_
  refine A.RS W0 [] [] [(6, .own 520070001)] [(520070001, .slice 3 1 (ml eInt (sortI vx_1)) 0 false)] (by kernel_rfl) ?_
  refine A.ret ?_
  obtain rfl := some_inj hm
  exact A.fin W0 [.fz [520070001]] rfl (by kernel_rfl)
theorem m_topology_Neighbours_ok {t : GTopology} {router : Int} {r : (List Int)} (hm : m_topology_Neighbours t router = some r) : RO Try.prog 41 [] [.agg [.lst false (ml eGRouter t.Routers), .lst false (ml eGLink t.Links)], .int .i64 router] (.lst false (ml eInt r)) := by
  refine enterA Try.func41 rfl rfl ?_
  unfold m_topology_Neighbours at hm
  refine A.RS W0 [] [(0, .al 41002)] [(1, .int .i64 router), (2, .ptr 41002 0)] [(41002, .cells 26 [.lst false (ml eGRouter t.Routers), .lst false (ml eGLink t.Links)])] (by kernel_rfl) ?_
  refine A.seq ?_
  obtain ⟨vx_1, h1, hm⟩ := bnd_some hm
  refine A.RS W0 [] [(1, hro (m_topology_valid_ok h1) ck67)] [(1, .int .i64 router), (2, .ptr 41002 0), (7, .bool (!vx_1))] [(41002, .cells 26 [.lst false (ml eGRouter t.Routers), .lst false (ml eGLink t.Links)])] (by kernel_rfl) ?_
  rcases cs_some hm with ⟨c1, hm⟩ | ⟨c1, hm⟩
  · skip
    refine A.cT rfl c1 ?_
    refine A.RS W0 [] [] [(4, .nils)] [] (by kernel_rfl) ?_
    refine A.ret ?_
    obtain rfl := some_inj hm
    exact A.fin W0 [] rfl (by kernel_rfl)
  refine A.cF rfl c1 ?_
  refine A.skip ?_
  show acode _ _ _ _ _
  obtain ⟨vx_2, h2, hm⟩ := bnd_some hm
  refine A.RS W0 [] [(2, hro (m_topology_neighbours_ok h2) ck71)] [(4, .lst false (ml eInt vx_2))] [] (by kernel_rfl) ?_
  refine A.ret ?_
  obtain rfl := some_inj hm
  exact A.fin W0 [] rfl (by kernel_rfl)
theorem m_topology_Components_ok {t : GTopology} {r : (List (List Int))} (hm : m_topology_Components t = some r) : RO Try.prog 28 [] [.agg [.lst false (ml eGRouter t.Routers), .lst false (ml eGLink t.Links)]] (.lst false (ml (eL eInt) r)) := by
  refine enterA Try.func28 rfl rfl ?_
  unfold m_topology_Components at hm
  refine A.RS W0 [] [(0, .al 28001)] [(1, .ptr 28001 0)] [(28001, .cells 26 [.lst false (ml eGRouter t.Routers), .lst false (ml eGLink t.Links)])] (by kernel_rfl) ?_
  refine A.seq ?_
  obtain ⟨vx_1, h1, hm⟩ := bnd_some hm
  refine A.RS W0 [] [(1, hro (m_topology_valid_ok h1) ck67)] [(1, .ptr 28001 0), (12, .bool (!vx_1))] [(28001, .cells 26 [.lst false (ml eGRouter t.Routers), .lst false (ml eGLink t.Links)])] (by kernel_rfl) ?_
  rcases cs_some hm with ⟨c1, hm⟩ | ⟨c1, hm⟩
  · skip
    refine A.cT rfl c1 ?_
    refine A.RS W0 [] [] [(2, .nils)] [] (by kernel_rfl) ?_
    refine A.ret ?_
    obtain rfl := some_inj hm
    exact A.fin W0 [] rfl (by kernel_rfl)
  refine A.cF rfl c1 ?_
  refine A.skip ?_
  show acode _ _ _ _ _
  refine A.RS W0 [] [] [(1, .ptr 28001 0), (3, .nils)] [(28001, .cells 26 [.lst false (ml eGRouter t.Routers), .lst false (ml eGLink t.Links)])] (by kernel_rfl) ?_
  refine A.RS W0 [] [(0, .al 28013)] [(1, .ptr 28001 0), (3, .nils), (4, .mapv 28013)] [(28001, .cells 26 [.lst false (ml eGRouter t.Routers), .lst false (ml eGLink t.Links)]), (28013, .map 3 4 (encM .i64 vB []))] (by kernel_rfl) ?_
  refine A.seq ?_
  refine A.RS W0 [] [(2, hto (lnE eGRouter t.Routers))] [(1, .ptr 28001 0), (3, .nils), (4, .mapv 28013), (15, .lst false (ml eGRouter t.Routers)), (16, .int .i64 (t.Routers.length:Int)), (17, .int .i64 (0:Int))] [(28001, .cells 26 [.lst false (ml eGRouter t.Routers), .lst false (ml eGLink t.Links)]), (28013, .map 3 4 (encM .i64 vB []))] (by kernel_rfl) ?_
  refine A.block ?_
  refine A.bS 15 rfl fun hb1 => ?_
  obtain ⟨B1, K1, hB1, hK1, hm⟩ := forI_some hm
  refine A.lpI (l := t.Routers) (j0 := 0) (B := B1) (K := K1) hm (fun j1 => fun sg => match sg with | (out_1, m_1) => [(1, .ptr 28001 0), (3, .own 600028003), (4, .mapv 28013), (15, .lst false (ml eGRouter t.Routers)), (16, .int .i64 (t.Routers.length:Int)), (17, .int .i64 (j1 : Int))]) (fun j1 => fun sg => match sg with | (out_1, m_1) => [(28001, .cells 26 [.lst false (ml eGRouter t.Routers), .lst false (ml eGLink t.Links)]), (28013, .map 3 4 (encM .i64 vB m_1)), (600028003, .slice 22 1 (ml (eL eInt) out_1) 0 false)]) ?_ ?_ ?_
  · exact Weak.go [.ad 3 600028003 22 1] [] (by kernel_rfl)
  · skip
    rintro j1 e1 Z1 ⟨out_1, m_1⟩ hj1 hx1 hm
    rw [hB1] at hm
    refine A.RS W0 [] [] [(1, .ptr 28001 0), (3, .own 600028003), (4, .mapv 28013), (15, .lst false (ml eGRouter t.Routers)), (16, .int .i64 (t.Routers.length:Int)), (17, .int .i64 (j1 : Int)), (18, .bool (decide ((j1 : Int) < (t.Routers.length:Int))))] [(28001, .cells 26 [.lst false (ml eGRouter t.Routers), .lst false (ml eGLink t.Links)]), (28013, .map 3 4 (encM .i64 vB m_1)), (600028003, .slice 22 1 (ml (eL eInt) out_1) 0 false)] (by kernel_rfl) ?_
    refine A.seq ?_
    refine A.cT rfl (ltT hx1) ?_
    refine A.skip ?_
    show acode _ _ _ _ _
    obtain ⟨J1, hJ1, hm⟩ := jn_some hm
    refine A.J (J := J1) (r := r) (fun sg => match sg with | (out_2, m_2) => [(1, .ptr 28001 0), (3, .own 600028003), (4, .mapv 28013), (15, .lst false (ml eGRouter t.Routers)), (16, .int .i64 (t.Routers.length:Int)), (17, .int .i64 (j1 : Int))]) (fun sg => match sg with | (out_2, m_2) => [(28001, .cells 26 [.lst false (ml eGRouter t.Routers), .lst false (ml eGLink t.Links)]), (28013, .map 3 4 (encM .i64 vB m_2)), (600028003, .slice 22 1 (ml (eL eInt) out_2) 0 false)]) ?_ ?_
    · skip
      refine A.block ?_
      refine A.RS W0 [] [(0, hix (ix eGRouter (elO_nat hx1))), (2, .al 28006)] [(1, .ptr 28001 0), (3, .own 600028003), (4, .mapv 28013), (15, .lst false (ml eGRouter t.Routers)), (16, .int .i64 (t.Routers.length:Int)), (17, .int .i64 (j1 : Int)), (6, .ptr 28006 0)] [(28001, .cells 26 [.lst false (ml eGRouter t.Routers), .lst false (ml eGLink t.Links)]), (28013, .map 3 4 (encM .i64 vB m_1)), (600028003, .slice 22 1 (ml (eL eInt) out_1) 0 false), (28006, .cells 55 [.int .i64 e1.ID, .bool e1.Capable])] (by kernel_rfl) ?_
      refine A.seq ?_
      refine A.RS W0 [] [(3, hlk (lk (E := 4) (k := .i64) (enc := vB) m_1 e1.ID false (fun w => ⟨_, Try.zeroValue4 w, fun I => by simp [RepC, vI, vB]⟩)))] [(1, .ptr 28001 0), (3, .own 600028003), (4, .mapv 28013), (15, .lst false (ml eGRouter t.Routers)), (16, .int .i64 (t.Routers.length:Int)), (17, .int .i64 (j1 : Int)), (6, .ptr 28006 0), (24, .bool ((getI m_1 e1.ID).getD false))] [(28001, .cells 26 [.lst false (ml eGRouter t.Routers), .lst false (ml eGLink t.Links)]), (28013, .map 3 4 (encM .i64 vB m_1)), (600028003, .slice 22 1 (ml (eL eInt) out_1) 0 false), (28006, .cells 55 [.int .i64 e1.ID, .bool e1.Capable])] (by kernel_rfl) ?_
      rcases cs_some hm with ⟨c2, hm⟩ | ⟨c2, hm⟩
      · skip
        refine A.cT rfl c2 ?_
        refine A.exit ?_
        exact Exists.intro (out_1, m_1) (And.intro hm (Weak.go [] [] (by kernel_rfl)))
      refine A.cF rfl c2 ?_
      refine A.skip ?_
      show acode _ _ _ _ _
      obtain ⟨vx_2, h2, hm⟩ := bnd_some hm
      refine A.RS W0 [] [(3, hro (m_topology_reached_ok h2) ck70)] [(1, .ptr 28001 0), (3, .own 600028003), (4, .mapv 28013), (15, .lst false (ml eGRouter t.Routers)), (16, .int .i64 (t.Routers.length:Int)), (17, .int .i64 (j1 : Int)), (7, .lst false (ml eInt vx_2))] [(28001, .cells 26 [.lst false (ml eGRouter t.Routers), .lst false (ml eGLink t.Links)]), (28013, .map 3 4 (encM .i64 vB m_1)), (600028003, .slice 22 1 (ml (eL eInt) out_1) 0 false)] (by kernel_rfl) ?_
      refine A.seq ?_
      refine A.RS W0 [] [(1, hto (lnE eInt vx_2))] [(1, .ptr 28001 0), (3, .own 600028003), (4, .mapv 28013), (15, .lst false (ml eGRouter t.Routers)), (16, .int .i64 (t.Routers.length:Int)), (17, .int .i64 (j1 : Int)), (7, .lst false (ml eInt vx_2)), (29, .lst false (ml eInt vx_2)), (30, .int .i64 (vx_2.length:Int)), (31, .int .i64 (0:Int))] [(28001, .cells 26 [.lst false (ml eGRouter t.Routers), .lst false (ml eGLink t.Links)]), (28013, .map 3 4 (encM .i64 vB m_1)), (600028003, .slice 22 1 (ml (eL eInt) out_1) 0 false)] (by kernel_rfl) ?_
      refine A.block ?_
      refine A.bS 7 rfl fun hb2 => ?_
      obtain ⟨B2, K2, hB2, hK2, hm⟩ := forI_some hm
      refine A.lpI (l := vx_2) (j0 := 0) (B := B2) (K := K2) hm (fun j2 => fun m_3 => [(1, .ptr 28001 0), (3, .own 600028003), (4, .mapv 28013), (7, .lst false (ml eInt vx_2)), (15, .lst false (ml eGRouter t.Routers)), (16, .int .i64 (t.Routers.length:Int)), (17, .int .i64 (j1 : Int)), (29, .lst false (ml eInt vx_2)), (30, .int .i64 (vx_2.length:Int)), (31, .int .i64 (j2 : Int))]) (fun j2 => fun m_3 => [(28001, .cells 26 [.lst false (ml eGRouter t.Routers), .lst false (ml eGLink t.Links)]), (28013, .map 3 4 (encM .i64 vB m_3)), (600028003, .slice 22 1 (ml (eL eInt) out_1) 0 false)]) ?_ ?_ ?_
      · exact Weak.go [] [] (by kernel_rfl)
      · skip
        rintro j2 e2 Z2 m_3 hj2 hx2 hm
        rw [hB2] at hm
        refine A.RS W0 [] [] [(1, .ptr 28001 0), (3, .own 600028003), (4, .mapv 28013), (7, .lst false (ml eInt vx_2)), (15, .lst false (ml eGRouter t.Routers)), (16, .int .i64 (t.Routers.length:Int)), (17, .int .i64 (j1 : Int)), (29, .lst false (ml eInt vx_2)), (30, .int .i64 (vx_2.length:Int)), (31, .int .i64 (j2 : Int)), (32, .bool (decide ((j2 : Int) < (vx_2.length:Int))))] [(28001, .cells 26 [.lst false (ml eGRouter t.Routers), .lst false (ml eGLink t.Links)]), (28013, .map 3 4 (encM .i64 vB m_3)), (600028003, .slice 22 1 (ml (eL eInt) out_1) 0 false)] (by kernel_rfl) ?_
        refine A.seq ?_
        refine A.cT rfl (ltT hx2) ?_
        refine A.skip ?_
        show acode _ _ _ _ _
        refine A.seq ?_
        refine A.block ?_
        refine A.RS W0 [] [(0, hix (ix eInt (elO_nat hx2)))] [(1, .ptr 28001 0), (3, .own 600028003), (4, .mapv 28013), (7, .lst false (ml eInt vx_2)), (15, .lst false (ml eGRouter t.Routers)), (16, .int .i64 (t.Routers.length:Int)), (17, .int .i64 (j1 : Int)), (29, .lst false (ml eInt vx_2)), (30, .int .i64 (vx_2.length:Int)), (31, .int .i64 (j2 : Int)), (9, .int .i64 e2)] [(28001, .cells 26 [.lst false (ml eGRouter t.Routers), .lst false (ml eGLink t.Links)]), (28013, .map 3 4 (encM .i64 vB m_3)), (600028003, .slice 22 1 (ml (eL eInt) out_1) 0 false)] (by kernel_rfl) ?_
        refine A.R W0 [] [(2, hmu (mu (k := .i64) (enc := vB) m_3 e2 true rfl))] [(1, .ptr 28001 0), (3, .own 600028003), (4, .mapv 28013), (7, .lst false (ml eInt vx_2)), (15, .lst false (ml eGRouter t.Routers)), (16, .int .i64 (t.Routers.length:Int)), (17, .int .i64 (j1 : Int)), (29, .lst false (ml eInt vx_2)), (30, .int .i64 (vx_2.length:Int)), (31, .int .i64 (j2 : Int))] [(28001, .cells 26 [.lst false (ml eGRouter t.Routers), .lst false (ml eGLink t.Links)]), (28013, .map 3 4 (encM .i64 vB (setI m_3 e2 true))), (600028003, .slice 22 1 (ml (eL eInt) out_1) 0 false)] (by kernel_rfl) ?_
        show acode _ _ _ _ _
        refine A.R W0 [] [(0, hto (inc hx2 hb2))] [(1, .ptr 28001 0), (3, .own 600028003), (4, .mapv 28013), (7, .lst false (ml eInt vx_2)), (15, .lst false (ml eGRouter t.Routers)), (16, .int .i64 (t.Routers.length:Int)), (17, .int .i64 (j1 : Int)), (29, .lst false (ml eInt vx_2)), (30, .int .i64 (vx_2.length:Int)), (31, .int .i64 ((j2 + 1 : Nat) : Int))] [(28001, .cells 26 [.lst false (ml eGRouter t.Routers), .lst false (ml eGLink t.Links)]), (28013, .map 3 4 (encM .i64 vB (setI m_3 e2 true))), (600028003, .slice 22 1 (ml (eL eInt) out_1) 0 false)] (by kernel_rfl) ?_
        exact Exists.intro (setI m_3 e2 true) (And.intro hm (Weak.go [] [] (by kernel_rfl)))
      rintro j2 m_3 hj2 hl2 hm
      rw [hK2] at hm
      refine A.RS W0 [] [] [(1, .ptr 28001 0), (3, .own 600028003), (4, .mapv 28013), (7, .lst false (ml eInt vx_2)), (15, .lst false (ml eGRouter t.Routers)), (16, .int .i64 (t.Routers.length:Int)), (17, .int .i64 (j1 : Int)), (29, .lst false (ml eInt vx_2)), (30, .int .i64 (vx_2.length:Int)), (31, .int .i64 (j2 : Int)), (32, .bool (decide ((j2 : Int) < (vx_2.length:Int))))] [(28001, .cells 26 [.lst false (ml eGRouter t.Routers), .lst false (ml eGLink t.Links)]), (28013, .map 3 4 (encM .i64 vB m_3)), (600028003, .slice 22 1 (ml (eL eInt) out_1) 0 false)] (by kernel_rfl) ?_
      refine A.seq ?_
      refine A.cF rfl (ltF hl2) ?_
      refine A.exit ?_
      show acode _ _ _ _ _
      obtain ⟨l_1, h3, hm⟩ := bnd_some hm
      refine A.R W0 [] [(3, hap 28541 (ap (eL eInt) (bytes := 24) (by decide) h3))] [(1, .ptr 28001 0), (3, .own 28541), (4, .mapv 28013), (15, .lst false (ml eGRouter t.Routers)), (16, .int .i64 (t.Routers.length:Int)), (17, .int .i64 (j1 : Int))] [(28001, .cells 26 [.lst false (ml eGRouter t.Routers), .lst false (ml eGLink t.Links)]), (28013, .map 3 4 (encM .i64 vB m_3)), (28541, .slice 22 1 (ml (eL eInt) l_1) 0 false)] (by kernel_rfl) ?_
      exact Exists.intro (l_1, m_3) (And.intro hm (Weak.go [.sw 28541 600028003] [] (by kernel_rfl)))
    rintro ⟨out_2, m_2⟩ hm
    rw [hJ1] at hm
    refine A.R W0 [] [(0, hto (inc hx1 hb1))] [(1, .ptr 28001 0), (3, .own 600028003), (4, .mapv 28013), (15, .lst false (ml eGRouter t.Routers)), (16, .int .i64 (t.Routers.length:Int)), (17, .int .i64 ((j1 + 1 : Nat) : Int))] [(28001, .cells 26 [.lst false (ml eGRouter t.Routers), .lst false (ml eGLink t.Links)]), (28013, .map 3 4 (encM .i64 vB m_2)), (600028003, .slice 22 1 (ml (eL eInt) out_2) 0 false)] (by kernel_rfl) ?_
    exact Exists.intro (out_2, m_2) (And.intro hm (Weak.go [] [] (by kernel_rfl)))
  rintro j1 ⟨out_1, m_1⟩ hj1 hl1 hm
  rw [hK1] at hm
  refine A.RS W0 [] [] [(1, .ptr 28001 0), (3, .own 600028003), (4, .mapv 28013), (15, .lst false (ml eGRouter t.Routers)), (16, .int .i64 (t.Routers.length:Int)), (17, .int .i64 (j1 : Int)), (18, .bool (decide ((j1 : Int) < (t.Routers.length:Int))))] [(28001, .cells 26 [.lst false (ml eGRouter t.Routers), .lst false (ml eGLink t.Links)]), (28013, .map 3 4 (encM .i64 vB m_1)), (600028003, .slice 22 1 (ml (eL eInt) out_1) 0 false)] (by kernel_rfl) ?_
  refine A.seq ?_
  refine A.cF rfl (ltF hl1) ?_
  refine A.exit ?_
  show acode _ _ _ _ _
  refine A.RS W0 [] [] [(2, .own 600028003)] [(600028003, .slice 22 1 (ml (eL eInt) out_1) 0 false)] (by kernel_rfl) ?_
  refine A.ret ?_
  obtain rfl := some_inj hm
  exact A.fin W0 [.fz [600028003]] rfl (by kernel_rfl)
theorem m_topology_Connected_ok {t : GTopology} {a : Int} {b : Int} {r : Bool} (hm : m_topology_Connected t a b = some r) : RO Try.prog 33 [] [.agg [.lst false (ml eGRouter t.Routers), .lst false (ml eGLink t.Links)], .int .i64 a, .int .i64 b] (.bool r) := by
  refine enterA Try.func33 rfl rfl ?_
  unfold m_topology_Connected at hm
  refine A.RS W0 [] [(0, .al 33003)] [(1, .int .i64 a), (2, .int .i64 b), (3, .ptr 33003 0)] [(33003, .cells 26 [.lst false (ml eGRouter t.Routers), .lst false (ml eGLink t.Links)])] (by kernel_rfl) ?_
  obtain ⟨vx_1, h1, hm⟩ := bnd_some hm
  rcases cs_some hm with ⟨c1, hm⟩ | ⟨c1, hm⟩
  · skip
    obtain ⟨vx_2, h2, hm⟩ := bnd_some hm
    rcases cs_some hm with ⟨c2, hm⟩ | ⟨c2, hm⟩
    · skip
      obtain ⟨vx_3, h3, hm⟩ := bnd_some hm
      obtain ⟨vx_4, h4, hm⟩ := bnd_some hm
      refine A.RS W0 [] [(2, hro (m_topology_Has_ok h1) ck37), (3, hto (bE c1)), (6, hro (m_topology_Has_ok h2) ck37), (8, hto (bE c2)), (11, hro (m_topology_reached_ok h3) ck70), (13, hro (m_slices_Contains_Lint_int_ok h4) ck68)] [(6, .bool vx_4)] [] (by kernel_rfl) ?_
      refine A.ret ?_
      obtain rfl := some_inj hm
      exact A.fin W0 [] rfl (by kernel_rfl)
    refine A.RS W0 [] [(2, hro (m_topology_Has_ok h1) ck37), (3, hto (bE c1)), (6, hro (m_topology_Has_ok h2) ck37), (8, hto (bE c2))] [(6, .bool false)] [] (by kernel_rfl) ?_
    refine A.ret ?_
    obtain rfl := some_inj hm
    exact A.fin W0 [] rfl (by kernel_rfl)
  refine A.RS W0 [] [(2, hro (m_topology_Has_ok h1) ck37), (3, hto (bE c1))] [(6, .bool false)] [] (by kernel_rfl) ?_
  refine A.ret ?_
  obtain rfl := some_inj hm
  exact A.fin W0 [] rfl (by kernel_rfl)
theorem m_topology_Bridges_ok {t : GTopology} {r : (List GHop)} (hm : m_topology_Bridges t = some r) : RO Try.prog 22 [] [.agg [.lst false (ml eGRouter t.Routers), .lst false (ml eGLink t.Links)]] (.lst false (ml eGHop r)) := by
  refine enterA Try.func22 rfl rfl ?_
  unfold m_topology_Bridges at hm
  refine A.RS W0 [] [(0, .al 22001)] [(1, .ptr 22001 0)] [(22001, .cells 26 [.lst false (ml eGRouter t.Routers), .lst false (ml eGLink t.Links)])] (by kernel_rfl) ?_
  refine A.seq ?_
  obtain ⟨vx_1, h1, hm⟩ := bnd_some hm
  refine A.RS W0 [] [(1, hro (m_topology_valid_ok h1) ck67)] [(1, .ptr 22001 0), (9, .bool (!vx_1))] [(22001, .cells 26 [.lst false (ml eGRouter t.Routers), .lst false (ml eGLink t.Links)])] (by kernel_rfl) ?_
  rcases cs_some hm with ⟨c1, hm⟩ | ⟨c1, hm⟩
  · skip
    refine A.cT rfl c1 ?_
    refine A.RS W0 [] [] [(2, .nils)] [] (by kernel_rfl) ?_
    refine A.ret ?_
    obtain rfl := some_inj hm
    exact A.fin W0 [] rfl (by kernel_rfl)
  refine A.cF rfl c1 ?_
  refine A.skip ?_
  show acode _ _ _ _ _
  refine A.RS W0 [] [] [(1, .ptr 22001 0), (3, .nils)] [(22001, .cells 26 [.lst false (ml eGRouter t.Routers), .lst false (ml eGLink t.Links)])] (by kernel_rfl) ?_
  refine A.seq ?_
  refine A.RS W0 [] [(2, hto (lnE eGLink t.Links))] [(1, .ptr 22001 0), (3, .nils), (11, .lst false (ml eGLink t.Links)), (12, .int .i64 (t.Links.length:Int)), (13, .int .i64 (0:Int))] [(22001, .cells 26 [.lst false (ml eGRouter t.Routers), .lst false (ml eGLink t.Links)])] (by kernel_rfl) ?_
  refine A.block ?_
  refine A.bS 11 rfl fun hb1 => ?_
  obtain ⟨B1, K1, hB1, hK1, hm⟩ := forI_some hm
  refine A.lpI (l := t.Links) (j0 := 0) (B := B1) (K := K1) hm (fun j1 => fun out_1 => [(1, .ptr 22001 0), (3, .own 600022003), (11, .lst false (ml eGLink t.Links)), (12, .int .i64 (t.Links.length:Int)), (13, .int .i64 (j1 : Int))]) (fun j1 => fun out_1 => [(22001, .cells 26 [.lst false (ml eGRouter t.Routers), .lst false (ml eGLink t.Links)]), (600022003, .slice 52 2 (ml eGHop out_1) 0 false)]) ?_ ?_ ?_
  · exact Weak.go [.ad 3 600022003 52 2] [] (by kernel_rfl)
  · skip
    rintro j1 e1 Z1 out_1 hj1 hx1 hm
    rw [hB1] at hm
    refine A.RS W0 [] [] [(1, .ptr 22001 0), (3, .own 600022003), (11, .lst false (ml eGLink t.Links)), (12, .int .i64 (t.Links.length:Int)), (13, .int .i64 (j1 : Int)), (14, .bool (decide ((j1 : Int) < (t.Links.length:Int))))] [(22001, .cells 26 [.lst false (ml eGRouter t.Routers), .lst false (ml eGLink t.Links)]), (600022003, .slice 52 2 (ml eGHop out_1) 0 false)] (by kernel_rfl) ?_
    refine A.seq ?_
    refine A.cT rfl (ltT hx1) ?_
    refine A.skip ?_
    show acode _ _ _ _ _
    obtain ⟨J1, hJ1, hm⟩ := jn_some hm
    refine A.J (J := J1) (r := r) (fun out_2 => [(1, .ptr 22001 0), (3, .own 600022003), (11, .lst false (ml eGLink t.Links)), (12, .int .i64 (t.Links.length:Int)), (13, .int .i64 (j1 : Int))]) (fun out_2 => [(22001, .cells 26 [.lst false (ml eGRouter t.Routers), .lst false (ml eGLink t.Links)]), (600022003, .slice 52 2 (ml eGHop out_2) 0 false)]) ?_ ?_
    · skip
      refine A.block ?_
      refine A.RS W0 [] [(0, hix (ix eGLink (elO_nat hx1))), (2, .al 22005)] [(1, .ptr 22001 0), (3, .own 600022003), (11, .lst false (ml eGLink t.Links)), (12, .int .i64 (t.Links.length:Int)), (13, .int .i64 (j1 : Int)), (5, .ptr 22005 0)] [(22001, .cells 26 [.lst false (ml eGRouter t.Routers), .lst false (ml eGLink t.Links)]), (600022003, .slice 52 2 (ml eGHop out_1) 0 false), (22005, .cells 50 [.int .i64 e1.A, .int .i64 e1.B, .int .i64 e1.CostA, .int .i64 e1.CostB, .int .i64 e1.Capacity])] (by kernel_rfl) ?_
      refine A.RS W0 [] [(5, .al 22006)] [(1, .ptr 22001 0), (3, .own 600022003), (11, .lst false (ml eGLink t.Links)), (12, .int .i64 (t.Links.length:Int)), (13, .int .i64 (j1 : Int)), (5, .ptr 22005 0), (6, .ptr 22006 0)] [(22001, .cells 26 [.lst false (ml eGRouter t.Routers), .lst false (ml eGLink t.Links)]), (600022003, .slice 52 2 (ml eGHop out_1) 0 false), (22005, .cells 50 [.int .i64 e1.A, .int .i64 e1.B, .int .i64 e1.CostA, .int .i64 e1.CostB, .int .i64 e1.Capacity]), (22006, .cells 52 [.int .i64 e1.A, .int .i64 e1.B])] (by kernel_rfl) ?_
      obtain ⟨vx_2, h2, hm⟩ := bnd_some hm
      obtain ⟨vx_3, h3, hm⟩ := bnd_some hm
      obtain ⟨vx_4, h4, hm⟩ := bnd_some hm
      refine A.RS W0 [] [(4, hro (m_topology_Without_ok h2) ck19), (7, hro (m_topology_reached_ok h3) ck70), (10, hro (m_slices_Contains_Lint_int_ok h4) ck68)] [(1, .ptr 22001 0), (3, .own 600022003), (11, .lst false (ml eGLink t.Links)), (12, .int .i64 (t.Links.length:Int)), (13, .int .i64 (j1 : Int)), (6, .ptr 22006 0), (33, .bool (!vx_4))] [(22001, .cells 26 [.lst false (ml eGRouter t.Routers), .lst false (ml eGLink t.Links)]), (600022003, .slice 52 2 (ml eGHop out_1) 0 false), (22006, .cells 52 [.int .i64 e1.A, .int .i64 e1.B])] (by kernel_rfl) ?_
      rcases cs_some hm with ⟨c2, hm⟩ | ⟨c2, hm⟩
      · skip
        refine A.cT rfl c2 ?_
        obtain ⟨l_1, h5, hm⟩ := bnd_some hm
        refine A.R W0 [] [(3, hap 22537 (ap eGHop (bytes := 16) (by decide) h5))] [(1, .ptr 22001 0), (3, .own 22537), (11, .lst false (ml eGLink t.Links)), (12, .int .i64 (t.Links.length:Int)), (13, .int .i64 (j1 : Int))] [(22001, .cells 26 [.lst false (ml eGRouter t.Routers), .lst false (ml eGLink t.Links)]), (22537, .slice 52 2 (ml eGHop l_1) 0 false)] (by kernel_rfl) ?_
        exact Exists.intro l_1 (And.intro hm (Weak.go [.sw 22537 600022003] [] (by kernel_rfl)))
      refine A.cF rfl c2 ?_
      refine A.skip ?_
      exact Exists.intro out_1 (And.intro hm (Weak.go [] [] (by kernel_rfl)))
    rintro out_2 hm
    rw [hJ1] at hm
    refine A.R W0 [] [(0, hto (inc hx1 hb1))] [(1, .ptr 22001 0), (3, .own 600022003), (11, .lst false (ml eGLink t.Links)), (12, .int .i64 (t.Links.length:Int)), (13, .int .i64 ((j1 + 1 : Nat) : Int))] [(22001, .cells 26 [.lst false (ml eGRouter t.Routers), .lst false (ml eGLink t.Links)]), (600022003, .slice 52 2 (ml eGHop out_2) 0 false)] (by kernel_rfl) ?_
    exact Exists.intro out_2 (And.intro hm (Weak.go [] [] (by kernel_rfl)))
  rintro j1 out_1 hj1 hl1 hm
  rw [hK1] at hm
  refine A.RS W0 [] [] [(1, .ptr 22001 0), (3, .own 600022003), (11, .lst false (ml eGLink t.Links)), (12, .int .i64 (t.Links.length:Int)), (13, .int .i64 (j1 : Int)), (14, .bool (decide ((j1 : Int) < (t.Links.length:Int))))] [(22001, .cells 26 [.lst false (ml eGRouter t.Routers), .lst false (ml eGLink t.Links)]), (600022003, .slice 52 2 (ml eGHop out_1) 0 false)] (by kernel_rfl) ?_
  refine A.seq ?_
  refine A.cF rfl (ltF hl1) ?_
  refine A.exit ?_
  show acode _ _ _ _ _
  refine A.RS W0 [] [] [(2, .own 600022003)] [(600022003, .slice 52 2 (ml eGHop out_1) 0 false)] (by kernel_rfl) ?_
  refine A.ret ?_
  obtain rfl := some_inj hm
  exact A.fin W0 [.fz [600022003]] rfl (by kernel_rfl)
theorem m_topology_Cuts_ok {t : GTopology} {r : (List Int)} (hm : m_topology_Cuts t = some r) : RO Try.prog 23 [] [.agg [.lst false (ml eGRouter t.Routers), .lst false (ml eGLink t.Links)]] (.lst false (ml eInt r)) := by
  refine enterA Try.func23 rfl rfl ?_
  unfold m_topology_Cuts at hm
  refine A.RS W0 [] [(0, .al 23001)] [(1, .ptr 23001 0)] [(23001, .cells 26 [.lst false (ml eGRouter t.Routers), .lst false (ml eGLink t.Links)])] (by kernel_rfl) ?_
  refine A.seq ?_
  obtain ⟨vx_1, h1, hm⟩ := bnd_some hm
  refine A.RS W0 [] [(1, hro (m_topology_valid_ok h1) ck67)] [(1, .ptr 23001 0), (9, .bool (!vx_1))] [(23001, .cells 26 [.lst false (ml eGRouter t.Routers), .lst false (ml eGLink t.Links)])] (by kernel_rfl) ?_
  rcases cs_some hm with ⟨c1, hm⟩ | ⟨c1, hm⟩
  · skip
    refine A.cT rfl c1 ?_
    refine A.RS W0 [] [] [(2, .nils)] [] (by kernel_rfl) ?_
    refine A.ret ?_
    obtain rfl := some_inj hm
    exact A.fin W0 [] rfl (by kernel_rfl)
  refine A.cF rfl c1 ?_
  refine A.skip ?_
  show acode _ _ _ _ _
  refine A.RS W0 [] [] [(1, .ptr 23001 0), (3, .nils)] [(23001, .cells 26 [.lst false (ml eGRouter t.Routers), .lst false (ml eGLink t.Links)])] (by kernel_rfl) ?_
  refine A.seq ?_
  refine A.RS W0 [] [(2, hto (lnE eGRouter t.Routers))] [(1, .ptr 23001 0), (3, .nils), (11, .lst false (ml eGRouter t.Routers)), (12, .int .i64 (t.Routers.length:Int)), (13, .int .i64 (0:Int))] [(23001, .cells 26 [.lst false (ml eGRouter t.Routers), .lst false (ml eGLink t.Links)])] (by kernel_rfl) ?_
  refine A.block ?_
  refine A.bS 11 rfl fun hb1 => ?_
  obtain ⟨B1, K1, hB1, hK1, hm⟩ := forI_some hm
  refine A.lpI (l := t.Routers) (j0 := 0) (B := B1) (K := K1) hm (fun j1 => fun out_1 => [(1, .ptr 23001 0), (3, .own 600023003), (11, .lst false (ml eGRouter t.Routers)), (12, .int .i64 (t.Routers.length:Int)), (13, .int .i64 (j1 : Int))]) (fun j1 => fun out_1 => [(23001, .cells 26 [.lst false (ml eGRouter t.Routers), .lst false (ml eGLink t.Links)]), (600023003, .slice 3 1 (ml eInt out_1) 0 false)]) ?_ ?_ ?_
  · exact Weak.go [.ad 3 600023003 3 1] [] (by kernel_rfl)
  · skip
    rintro j1 e1 Z1 out_1 hj1 hx1 hm
    rw [hB1] at hm
    refine A.RS W0 [] [] [(1, .ptr 23001 0), (3, .own 600023003), (11, .lst false (ml eGRouter t.Routers)), (12, .int .i64 (t.Routers.length:Int)), (13, .int .i64 (j1 : Int)), (14, .bool (decide ((j1 : Int) < (t.Routers.length:Int))))] [(23001, .cells 26 [.lst false (ml eGRouter t.Routers), .lst false (ml eGLink t.Links)]), (600023003, .slice 3 1 (ml eInt out_1) 0 false)] (by kernel_rfl) ?_
    refine A.seq ?_
    refine A.cT rfl (ltT hx1) ?_
    refine A.skip ?_
    show acode _ _ _ _ _
    obtain ⟨J1, hJ1, hm⟩ := jn_some hm
    refine A.J (J := J1) (r := r) (fun out_2 => [(1, .ptr 23001 0), (3, .own 600023003), (11, .lst false (ml eGRouter t.Routers)), (12, .int .i64 (t.Routers.length:Int)), (13, .int .i64 (j1 : Int))]) (fun out_2 => [(23001, .cells 26 [.lst false (ml eGRouter t.Routers), .lst false (ml eGLink t.Links)]), (600023003, .slice 3 1 (ml eInt out_2) 0 false)]) ?_ ?_
    · skip
      refine A.block ?_
      refine A.RS W0 [] [(0, hix (ix eGRouter (elO_nat hx1))), (2, .al 23005)] [(1, .ptr 23001 0), (3, .own 600023003), (11, .lst false (ml eGRouter t.Routers)), (12, .int .i64 (t.Routers.length:Int)), (13, .int .i64 (j1 : Int)), (5, .ptr 23005 0)] [(23001, .cells 26 [.lst false (ml eGRouter t.Routers), .lst false (ml eGLink t.Links)]), (600023003, .slice 3 1 (ml eInt out_1) 0 false), (23005, .cells 55 [.int .i64 e1.ID, .bool e1.Capable])] (by kernel_rfl) ?_
      obtain ⟨vx_2, h2, hm⟩ := bnd_some hm
      refine A.RS W0 [] [(3, hro (m_topology_neighbours_ok h2) ck71)] [(1, .ptr 23001 0), (3, .own 600023003), (11, .lst false (ml eGRouter t.Routers)), (12, .int .i64 (t.Routers.length:Int)), (13, .int .i64 (j1 : Int)), (5, .ptr 23005 0), (6, .lst false (ml eInt vx_2))] [(23001, .cells 26 [.lst false (ml eGRouter t.Routers), .lst false (ml eGLink t.Links)]), (600023003, .slice 3 1 (ml eInt out_1) 0 false), (23005, .cells 55 [.int .i64 e1.ID, .bool e1.Capable])] (by kernel_rfl) ?_
      obtain ⟨J2, hJ2, hm⟩ := jn_some hm
      refine A.J (J := J2) (r := r) (fun v_1 => [(1, .ptr 23001 0), (3, .own 600023003), (5, .ptr 23005 0), (11, .lst false (ml eGRouter t.Routers)), (12, .int .i64 (t.Routers.length:Int)), (13, .int .i64 (j1 : Int)), (41, .bool v_1)]) (fun v_1 => [(23001, .cells 26 [.lst false (ml eGRouter t.Routers), .lst false (ml eGLink t.Links)]), (600023003, .slice 3 1 (ml eInt out_1) 0 false), (23005, .cells 55 [.int .i64 e1.ID, .bool e1.Capable])]) ?_ ?_
      · skip
        rcases cs_some hm with ⟨c2, hm⟩ | ⟨c2, hm⟩
        · skip
          obtain ⟨e_1, h3, hm⟩ := bnd_some hm
          obtain ⟨vx_3, h4, hm⟩ := bnd_some hm
          obtain ⟨vx_4, h5, hm⟩ := bnd_some hm
          refine A.R W0 [] [(1, hto (lnE eInt vx_2)), (3, hto (bE c2)), (6, hix (ix eInt h3)), (11, hro (m_topology_reached_ok h4) ck70), (12, hto (lnE eInt vx_3)), (16, hro (m_topology_reached_ok h5) ck70), (17, hto (lnE eInt vx_4))] [(1, .ptr 23001 0), (3, .own 600023003), (11, .lst false (ml eGRouter t.Routers)), (12, .int .i64 (t.Routers.length:Int)), (13, .int .i64 (j1 : Int)), (5, .ptr 23005 0), (41, .bool (!decide ((vx_3.length:Int) = w64 ((vx_4.length:Int) - (1:Int)))))] [(23001, .cells 26 [.lst false (ml eGRouter t.Routers), .lst false (ml eGLink t.Links)]), (600023003, .slice 3 1 (ml eInt out_1) 0 false), (23005, .cells 55 [.int .i64 e1.ID, .bool e1.Capable])] (by kernel_rfl) ?_
          exact Exists.intro (!decide ((vx_3.length:Int) = w64 ((vx_4.length:Int) - (1:Int)))) (And.intro hm (Weak.go [] [] (by kernel_rfl)))
        refine A.R W0 [] [(1, hto (lnE eInt vx_2)), (3, hto (bE c2))] [(1, .ptr 23001 0), (3, .own 600023003), (11, .lst false (ml eGRouter t.Routers)), (12, .int .i64 (t.Routers.length:Int)), (13, .int .i64 (j1 : Int)), (5, .ptr 23005 0), (41, .bool false)] [(23001, .cells 26 [.lst false (ml eGRouter t.Routers), .lst false (ml eGLink t.Links)]), (600023003, .slice 3 1 (ml eInt out_1) 0 false), (23005, .cells 55 [.int .i64 e1.ID, .bool e1.Capable])] (by kernel_rfl) ?_
        exact Exists.intro false (And.intro hm (Weak.go [] [] (by kernel_rfl)))
      rintro v_1 hm
      rw [hJ2] at hm
      rcases cs_some hm with ⟨c3, hm⟩ | ⟨c3, hm⟩
      · skip
        refine A.cT rfl c3 ?_
        obtain ⟨l_1, h6, hm⟩ := bnd_some hm
        refine A.R W0 [] [(4, hap 23546 (ap eInt (bytes := 8) (by decide) h6))] [(1, .ptr 23001 0), (3, .own 23546), (11, .lst false (ml eGRouter t.Routers)), (12, .int .i64 (t.Routers.length:Int)), (13, .int .i64 (j1 : Int))] [(23001, .cells 26 [.lst false (ml eGRouter t.Routers), .lst false (ml eGLink t.Links)]), (23546, .slice 3 1 (ml eInt l_1) 0 false)] (by kernel_rfl) ?_
        exact Exists.intro l_1 (And.intro hm (Weak.go [.sw 23546 600023003] [] (by kernel_rfl)))
      refine A.cF rfl c3 ?_
      refine A.skip ?_
      exact Exists.intro out_1 (And.intro hm (Weak.go [] [] (by kernel_rfl)))
    rintro out_2 hm
    rw [hJ1] at hm
    refine A.R W0 [] [(0, hto (inc hx1 hb1))] [(1, .ptr 23001 0), (3, .own 600023003), (11, .lst false (ml eGRouter t.Routers)), (12, .int .i64 (t.Routers.length:Int)), (13, .int .i64 ((j1 + 1 : Nat) : Int))] [(23001, .cells 26 [.lst false (ml eGRouter t.Routers), .lst false (ml eGLink t.Links)]), (600023003, .slice 3 1 (ml eInt out_2) 0 false)] (by kernel_rfl) ?_
    exact Exists.intro out_2 (And.intro hm (Weak.go [] [] (by kernel_rfl)))
  rintro j1 out_1 hj1 hl1 hm
  rw [hK1] at hm
  refine A.RS W0 [] [] [(1, .ptr 23001 0), (3, .own 600023003), (11, .lst false (ml eGRouter t.Routers)), (12, .int .i64 (t.Routers.length:Int)), (13, .int .i64 (j1 : Int)), (14, .bool (decide ((j1 : Int) < (t.Routers.length:Int))))] [(23001, .cells 26 [.lst false (ml eGRouter t.Routers), .lst false (ml eGLink t.Links)]), (600023003, .slice 3 1 (ml eInt out_1) 0 false)] (by kernel_rfl) ?_
  refine A.seq ?_
  refine A.cF rfl (ltF hl1) ?_
  refine A.exit ?_
  show acode _ _ _ _ _
  refine A.RS W0 [] [] [(2, .own 600023003)] [(600023003, .slice 3 1 (ml eInt out_1) 0 false)] (by kernel_rfl) ?_
  refine A.ret ?_
  obtain rfl := some_inj hm
  exact A.fin W0 [.fz [600023003]] rfl (by kernel_rfl)
end Go.Proofs.Ytggbjbcgfelgiaa
