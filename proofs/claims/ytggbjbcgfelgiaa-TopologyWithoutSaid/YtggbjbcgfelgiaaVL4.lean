/- The walks of functions of the program. No condition but those that stand in each. -/
import Derived.Test.YtggbjbcgfelgiaaDL4
import Derived.Test.YtggbjbcgfelgiaaV2
import Derived.Test.YtggbjbcgfelgiaaV3
import Derived.Test.YtggbjbcgfelgiaaVL
namespace Go.Proofs.Ytggbjbcgfelgiaa
open Go
set_option maxRecDepth 100000
set_option linter.all false
theorem m_law05_TopologyWithout_ok {t : List Int} {raw : GFailure} {r : Bool} (hm : m_law05_TopologyWithout t raw = some r) : RO Try.prog 4 [] [.lst false (ml eInt t), .agg [.lst false (ml eGHop raw.Links), .lst false (ml eInt raw.Routers)]] (.bool r) := by
  refine enterA Try.func4 rfl rfl ?_
  unfold m_law05_TopologyWithout at hm
  refine A.RS W0 [] [(0, .al 4003)] [(0, .lst false (ml eInt t)), (3, .ptr 4003 0)] [(4003, .cells 37 [.lst false (ml eGHop raw.Links), .lst false (ml eInt raw.Routers)])] (by kernel_rfl) ?_
  obtain ⟨vx_1, h1, hm⟩ := bnd_some hm
  refine A.RS W0 [] [(1, hdc [900000079] (m_mk_New_ok h1) ck11)] [(3, .ptr 4003 0), (5, .ptr 900000079 0)] [(4003, .cells 37 [.lst false (ml eGHop raw.Links), .lst false (ml eInt raw.Routers)]), (900000079, .cells 79 [.lst false (ml eInt vx_1.L), .int .i64 vx_1.At])] (by kernel_rfl) ?_
  obtain ⟨vx_2, h2, hm⟩ := bnd_some hm
  refine A.RS W0 [] [(1, hdc [500001200, 500001201] (m_mk_Tape_Topology_ok h2) ck12), (2, .al 4006)] [(3, .ptr 4003 0), (5, .ptr 900000079 0), (6, .ptr 4006 0)] [(4003, .cells 37 [.lst false (ml eGHop raw.Links), .lst false (ml eInt raw.Routers)]), (900000079, .cells 79 [.lst false (ml eInt vx_2.2.L), .int .i64 vx_2.2.At]), (500001200, .slice 55 2 (ml eGRouter vx_2.1.Routers) 0 false), (500001201, .slice 50 5 (ml eGLink vx_2.1.Links) 0 false), (4006, .cells 26 [.own 500001200, .own 500001201])] (by kernel_rfl) ?_
  obtain ⟨vx_3, h3, hm⟩ := bnd_some hm
  obtain ⟨vx_4, h4, hm⟩ := bnd_some hm
  refine A.RS W0 [.fz [500001200, 500001201]] [(2, hdc [] (SC.sealT (r' := .agg [.lst false (ml eGHop vx_3.1.Links), .lst false (ml eInt vx_3.1.Routers)]) (σ3 := [(900000079, .cells 79 [.lst false (ml eInt vx_3.2.L), .int .i64 vx_3.2.At])]) [500001700, 500001701] (m_mk_Tape_Failure_ok h3) (by kernel_rfl) (by kernel_rfl)) ck17), (5, hdc [] (m_mk_Tape_Failures_ok h4) ck18)] [(3, .ptr 4003 0), (6, .ptr 4006 0), (7, .lst true (ml eGFailure ([vx_3.1, vx_4.1, raw] : List GFailure)))] [(4003, .cells 37 [.lst false (ml eGHop raw.Links), .lst false (ml eInt raw.Routers)]), (500001200, .slice 55 2 (ml eGRouter vx_2.1.Routers) (ml eGRouter vx_2.1.Routers).length true), (500001201, .slice 50 5 (ml eGLink vx_2.1.Links) (ml eGLink vx_2.1.Links).length true), (4006, .cells 26 [.own 500001200, .own 500001201])] (by kernel_rfl) ?_
  refine A.seq ?_
  refine A.RS W0 [] [] [(3, .ptr 4003 0), (6, .ptr 4006 0), (7, .lst true (ml eGFailure ([vx_3.1, vx_4.1, raw] : List GFailure))), (8, .int .i64 (0:Int))] [(4003, .cells 37 [.lst false (ml eGHop raw.Links), .lst false (ml eInt raw.Routers)]), (500001200, .slice 55 2 (ml eGRouter vx_2.1.Routers) (ml eGRouter vx_2.1.Routers).length true), (500001201, .slice 50 5 (ml eGLink vx_2.1.Links) (ml eGLink vx_2.1.Links).length true), (4006, .cells 26 [.own 500001200, .own 500001201])] (by kernel_rfl) ?_
  refine A.block ?_
  obtain ⟨F1, n1, hF1, hm⟩ := whl_some hm
  refine A.lpW (F := F1) hm (fun i_1 => [(3, .ptr 4003 0), (6, .ptr 4006 0), (7, .lst true (ml eGFailure ([vx_3.1, vx_4.1, raw] : List GFailure))), (8, .int .i64 i_1)]) (fun i_1 => [(4003, .cells 37 [.lst false (ml eGHop raw.Links), .lst false (ml eInt raw.Routers)]), (500001200, .slice 55 2 (ml eGRouter vx_2.1.Routers) (ml eGRouter vx_2.1.Routers).length true), (500001201, .slice 50 5 (ml eGLink vx_2.1.Links) (ml eGLink vx_2.1.Links).length true), (4006, .cells 26 [.own 500001200, .own 500001201])]) ?_ ?_
  · exact Weak.go [] [] (by kernel_rfl)
  rintro Z1 i_1 hm
  rw [hF1] at hm
  refine A.seq ?_
  refine A.mid [(3, .ptr 4003 0), (6, .ptr 4006 0), (7, .lst true (ml eGFailure ([vx_3.1, vx_4.1, raw] : List GFailure))), (8, .int .i64 i_1), (35, .bool ((decide (i_1 < (([vx_3.1, vx_4.1, raw] : List GFailure).length:Int))) && (decide (w64 ((raw.Links.length:Int) + (raw.Routers.length:Int)) ≤ (200:Int)))))] [(4003, .cells 37 [.lst false (ml eGHop raw.Links), .lst false (ml eInt raw.Routers)]), (500001200, .slice 55 2 (ml eGRouter vx_2.1.Routers) (ml eGRouter vx_2.1.Routers).length true), (500001201, .slice 50 5 (ml eGLink vx_2.1.Links) (ml eGLink vx_2.1.Links).length true), (4006, .cells 26 [.own 500001200, .own 500001201])] (fun hk => ?_) ?_
  · skip
    rcases tf (decide (i_1 < (([vx_3.1, vx_4.1, raw] : List GFailure).length:Int))) with c1 | c1
    · skip
      exact A.RS W0 [] [(2, hto (lnE eGFailure ([vx_3.1, vx_4.1, raw] : List GFailure))), (4, hto (bE c1)), (7, hto (lnE eGHop raw.Links)), (10, hto (lnE eInt raw.Routers)), (13, hto (andT (q := decide (w64 ((raw.Links.length:Int) + (raw.Routers.length:Int)) ≤ (200:Int))) c1))] _ _ (by kernel_rfl) hk
    exact A.RS W0 [] [(2, hto (lnE eGFailure ([vx_3.1, vx_4.1, raw] : List GFailure))), (4, hto (bE c1)), (13, hto (andF (q := decide (w64 ((raw.Links.length:Int) + (raw.Routers.length:Int)) ≤ (200:Int))) c1))] _ _ (by kernel_rfl) hk
  rcases cs_some hm with ⟨c2, hm⟩ | ⟨c2, hm⟩
  · skip
    refine A.cT rfl c2 ?_
    refine A.skip ?_
    show acode _ _ _ _ _
    refine A.seq ?_
    refine A.block ?_
    obtain ⟨e_1, h5, hm⟩ := bnd_some hm
    obtain ⟨vx_5, h6, hm⟩ := bnd_some hm
    refine A.RS W0 [] [(3, hix (ix eGFailure h5)), (5, hro (m_topology_Without_ok h6) ck19), (6, .al 4009)] [(3, .ptr 4003 0), (6, .ptr 4006 0), (7, .lst true (ml eGFailure ([vx_3.1, vx_4.1, raw] : List GFailure))), (8, .int .i64 i_1), (9, .ptr 4009 0)] [(4003, .cells 37 [.lst false (ml eGHop raw.Links), .lst false (ml eInt raw.Routers)]), (500001200, .slice 55 2 (ml eGRouter vx_2.1.Routers) (ml eGRouter vx_2.1.Routers).length true), (500001201, .slice 50 5 (ml eGLink vx_2.1.Links) (ml eGLink vx_2.1.Links).length true), (4006, .cells 26 [.own 500001200, .own 500001201]), (4009, .cells 26 [.lst false (ml eGRouter vx_5.Routers), .lst false (ml eGLink vx_5.Links)])] (by kernel_rfl) ?_
    obtain ⟨J1, hJ1, hm⟩ := jn_some hm
    refine A.J (J := J1) (r := r) (fun v_1 => [(3, .ptr 4003 0), (6, .ptr 4006 0), (7, .lst true (ml eGFailure ([vx_3.1, vx_4.1, raw] : List GFailure))), (8, .int .i64 i_1), (57, .bool v_1)]) (fun v_1 => [(4003, .cells 37 [.lst false (ml eGHop raw.Links), .lst false (ml eInt raw.Routers)]), (500001200, .slice 55 2 (ml eGRouter vx_2.1.Routers) (ml eGRouter vx_2.1.Routers).length true), (500001201, .slice 50 5 (ml eGLink vx_2.1.Links) (ml eGLink vx_2.1.Links).length true), (4006, .cells 26 [.own 500001200, .own 500001201])]) ?_ ?_
    · skip
      obtain ⟨vx_6, h7, hm⟩ := bnd_some hm
      obtain ⟨vx_7, h8, hm⟩ := bnd_some hm
      rcases cs_some hm with ⟨c3, hm⟩ | ⟨c3, hm⟩
      · skip
        refine A.R W0 [] [(4, hix (ix eGFailure h5)), (6, hro (m_ref05_Without_ok h7) ck21), (7, hro (m_ref05_Same_ok h8) ck20), (9, hto (bE c3))] [(3, .ptr 4003 0), (6, .ptr 4006 0), (7, .lst true (ml eGFailure ([vx_3.1, vx_4.1, raw] : List GFailure))), (8, .int .i64 i_1), (57, .bool true)] [(4003, .cells 37 [.lst false (ml eGHop raw.Links), .lst false (ml eInt raw.Routers)]), (500001200, .slice 55 2 (ml eGRouter vx_2.1.Routers) (ml eGRouter vx_2.1.Routers).length true), (500001201, .slice 50 5 (ml eGLink vx_2.1.Links) (ml eGLink vx_2.1.Links).length true), (4006, .cells 26 [.own 500001200, .own 500001201])] (by kernel_rfl) ?_
        exact Exists.intro true (And.intro hm (Weak.go [] [] (by kernel_rfl)))
      obtain ⟨vx_8, h9, hm⟩ := bnd_some hm
      refine A.R W0 [] [(4, hix (ix eGFailure h5)), (6, hro (m_ref05_Without_ok h7) ck21), (7, hro (m_ref05_Same_ok h8) ck20), (9, hto (bE c3)), (11, hro (m_topology_Check_ok h9) ck13)] [(3, .ptr 4003 0), (6, .ptr 4006 0), (7, .lst true (ml eGFailure ([vx_3.1, vx_4.1, raw] : List GFailure))), (8, .int .i64 i_1), (57, .bool (!decide (vx_8 = (0:Int))))] [(4003, .cells 37 [.lst false (ml eGHop raw.Links), .lst false (ml eInt raw.Routers)]), (500001200, .slice 55 2 (ml eGRouter vx_2.1.Routers) (ml eGRouter vx_2.1.Routers).length true), (500001201, .slice 50 5 (ml eGLink vx_2.1.Links) (ml eGLink vx_2.1.Links).length true), (4006, .cells 26 [.own 500001200, .own 500001201])] (by kernel_rfl) ?_
      exact Exists.intro (!decide (vx_8 = (0:Int))) (And.intro hm (Weak.go [] [] (by kernel_rfl)))
    rintro v_1 hm
    rw [hJ1] at hm
    rcases cs_some hm with ⟨c4, hm⟩ | ⟨c4, hm⟩
    · skip
      refine A.cT rfl c4 ?_
      refine A.RS W0 [] [] [(4, .bool false)] [] (by kernel_rfl) ?_
      refine A.ret ?_
      obtain rfl := some_inj hm
      exact A.fin W0 [] rfl (by kernel_rfl)
    refine A.cF rfl c4 ?_
    refine A.skip ?_
    show acode _ _ _ _ _
    refine A.R W0 [] [] [(3, .ptr 4003 0), (6, .ptr 4006 0), (7, .lst true (ml eGFailure ([vx_3.1, vx_4.1, raw] : List GFailure))), (8, .int .i64 (w64 (i_1 + (1:Int))))] [(4003, .cells 37 [.lst false (ml eGHop raw.Links), .lst false (ml eInt raw.Routers)]), (500001200, .slice 55 2 (ml eGRouter vx_2.1.Routers) (ml eGRouter vx_2.1.Routers).length true), (500001201, .slice 50 5 (ml eGLink vx_2.1.Links) (ml eGLink vx_2.1.Links).length true), (4006, .cells 26 [.own 500001200, .own 500001201])] (by kernel_rfl) ?_
    exact Exists.intro (w64 (i_1 + (1:Int))) (And.intro hm (Weak.go [] [] (by kernel_rfl)))
  refine A.cF rfl c2 ?_
  refine A.exit ?_
  show acode _ _ _ _ _
  obtain ⟨vx_9, h10, hm⟩ := bnd_some hm
  refine A.RS W0 [] [(0, hro (m_law05_awake_ok h10) ck16)] [(4, .bool vx_9)] [] (by kernel_rfl) ?_
  refine A.ret ?_
  obtain rfl := some_inj hm
  exact A.fin W0 [] rfl (by kernel_rfl)
end Go.Proofs.Ytggbjbcgfelgiaa
