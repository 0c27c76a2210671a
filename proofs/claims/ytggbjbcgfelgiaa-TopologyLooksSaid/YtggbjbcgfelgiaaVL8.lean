/- The walks of functions of the program. No condition but those that stand in each. -/
import Derived.Test.YtggbjbcgfelgiaaDL8
import Derived.Test.YtggbjbcgfelgiaaV2
import Derived.Test.YtggbjbcgfelgiaaV3
import Derived.Test.YtggbjbcgfelgiaaVL
namespace Go.Proofs.Ytggbjbcgfelgiaa
open Go
set_option maxRecDepth 100000
set_option linter.all false
theorem m_law05_TopologyLooks_ok {t : List Int} {raw : GTopology} {xa2 : Int} {y : Int} {r : Bool} (hm : m_law05_TopologyLooks t raw xa2 y = some r) : RO Try.prog 8 [] [.lst false (ml eInt t), .agg [.lst false (ml eGRouter raw.Routers), .lst false (ml eGLink raw.Links)], .int .i64 xa2, .int .i64 y] (.bool r) := by
  refine enterA Try.func8 rfl rfl ?_
  unfold m_law05_TopologyLooks at hm
  refine A.RS W0 [] [(0, .al 8005)] [(0, .lst false (ml eInt t)), (2, .int .i64 xa2), (3, .int .i64 y), (5, .ptr 8005 0)] [(8005, .cells 26 [.lst false (ml eGRouter raw.Routers), .lst false (ml eGLink raw.Links)])] (by kernel_rfl) ?_
  obtain ⟨vx_1, h1, hm⟩ := bnd_some hm
  refine A.RS W0 [] [(1, hdc [900000079] (m_mk_New_ok h1) ck11)] [(2, .int .i64 xa2), (3, .int .i64 y), (5, .ptr 8005 0), (9, .ptr 900000079 0)] [(8005, .cells 26 [.lst false (ml eGRouter raw.Routers), .lst false (ml eGLink raw.Links)]), (900000079, .cells 79 [.lst false (ml eInt vx_1.L), .int .i64 vx_1.At])] (by kernel_rfl) ?_
  obtain ⟨vx_2, h2, hm⟩ := bnd_some hm
  refine A.RS W0 [] [(1, hdc [] (SC.sealT (r' := .agg [.lst false (ml eGRouter vx_2.1.Routers), .lst false (ml eGLink vx_2.1.Links)]) (σ3 := [(900000079, .cells 79 [.lst false (ml eInt vx_2.2.L), .int .i64 vx_2.2.At])]) [500001200, 500001201] (m_mk_Tape_Topology_ok h2) (by kernel_rfl) (by kernel_rfl)) ck12), (2, .al 8010)] [(2, .int .i64 xa2), (3, .int .i64 y), (5, .ptr 8005 0), (9, .ptr 900000079 0), (10, .ptr 8010 0)] [(8005, .cells 26 [.lst false (ml eGRouter raw.Routers), .lst false (ml eGLink raw.Links)]), (900000079, .cells 79 [.lst false (ml eInt vx_2.2.L), .int .i64 vx_2.2.At]), (8010, .cells 26 [.lst false (ml eGRouter vx_2.1.Routers), .lst false (ml eGLink vx_2.1.Links)])] (by kernel_rfl) ?_
  obtain ⟨vx_3, h3, hm⟩ := bnd_some hm
  obtain ⟨vx_4, h4, hm⟩ := bnd_some hm
  refine A.RS W0 [] [(3, hdc [] (m_mk_Tape_Next_ok h3) ck35), (6, hdc [] (m_mk_Tape_Router_ok h4) ck32)] [(5, .ptr 8005 0), (9, .ptr 900000079 0), (10, .ptr 8010 0), (11, .lst true (ml eInt ([xa2, y, vx_3.1, vx_4.1] : List Int)))] [(8005, .cells 26 [.lst false (ml eGRouter raw.Routers), .lst false (ml eGLink raw.Links)]), (900000079, .cells 79 [.lst false (ml eInt vx_4.2.L), .int .i64 vx_4.2.At]), (8010, .cells 26 [.lst false (ml eGRouter vx_2.1.Routers), .lst false (ml eGLink vx_2.1.Links)])] (by kernel_rfl) ?_
  obtain ⟨vx_5, h5, hm⟩ := bnd_some hm
  refine A.RS W0 [] [(2, hdc [] (m_mk_Tape_Mixed_ok h5) ck36)] [(5, .ptr 8005 0), (11, .lst true (ml eInt ([xa2, y, vx_3.1, vx_4.1] : List Int))), (12, .lst true (ml eGTopology ([vx_2.1, vx_5.1, raw] : List GTopology)))] [(8005, .cells 26 [.lst false (ml eGRouter raw.Routers), .lst false (ml eGLink raw.Links)])] (by kernel_rfl) ?_
  refine A.seq ?_
  refine A.RS W0 [] [] [(5, .ptr 8005 0), (11, .lst true (ml eInt ([xa2, y, vx_3.1, vx_4.1] : List Int))), (12, .lst true (ml eGTopology ([vx_2.1, vx_5.1, raw] : List GTopology))), (13, .int .i64 (0:Int))] [(8005, .cells 26 [.lst false (ml eGRouter raw.Routers), .lst false (ml eGLink raw.Links)])] (by kernel_rfl) ?_
  refine A.block ?_
  obtain ⟨F1, n1, hF1, hm⟩ := whl_some hm
  refine A.lpW (F := F1) hm (fun i_1 => [(5, .ptr 8005 0), (11, .lst true (ml eInt ([xa2, y, vx_3.1, vx_4.1] : List Int))), (12, .lst true (ml eGTopology ([vx_2.1, vx_5.1, raw] : List GTopology))), (13, .int .i64 i_1)]) (fun i_1 => [(8005, .cells 26 [.lst false (ml eGRouter raw.Routers), .lst false (ml eGLink raw.Links)])]) ?_ ?_
  · exact Weak.go [] [] (by kernel_rfl)
  rintro Z1 i_1 hm
  rw [hF1] at hm
  refine A.seq ?_
  obtain ⟨J1, hJ1, hm⟩ := jn_some hm
  refine A.J (J := J1) (r := r) (fun v_1 => [(5, .ptr 8005 0), (11, .lst true (ml eInt ([xa2, y, vx_3.1, vx_4.1] : List Int))), (12, .lst true (ml eGTopology ([vx_2.1, vx_5.1, raw] : List GTopology))), (13, .int .i64 i_1), (46, .bool v_1)]) (fun v_1 => [(8005, .cells 26 [.lst false (ml eGRouter raw.Routers), .lst false (ml eGLink raw.Links)])]) ?_ ?_
  · skip
    rcases cs_some hm with ⟨c1, hm⟩ | ⟨c1, hm⟩
    · skip
      obtain ⟨vx_6, h6, hm⟩ := bnd_some hm
      refine A.R W0 [] [(2, hto (lnE eGTopology ([vx_2.1, vx_5.1, raw] : List GTopology))), (4, hto (bE c1)), (6, hro (m_law05_big_ok h6) ck15)] [(5, .ptr 8005 0), (11, .lst true (ml eInt ([xa2, y, vx_3.1, vx_4.1] : List Int))), (12, .lst true (ml eGTopology ([vx_2.1, vx_5.1, raw] : List GTopology))), (13, .int .i64 i_1), (46, .bool (!vx_6))] [(8005, .cells 26 [.lst false (ml eGRouter raw.Routers), .lst false (ml eGLink raw.Links)])] (by kernel_rfl) ?_
      exact Exists.intro (!vx_6) (And.intro hm (Weak.go [] [] (by kernel_rfl)))
    refine A.R W0 [] [(2, hto (lnE eGTopology ([vx_2.1, vx_5.1, raw] : List GTopology))), (4, hto (bE c1))] [(5, .ptr 8005 0), (11, .lst true (ml eInt ([xa2, y, vx_3.1, vx_4.1] : List Int))), (12, .lst true (ml eGTopology ([vx_2.1, vx_5.1, raw] : List GTopology))), (13, .int .i64 i_1), (46, .bool false)] [(8005, .cells 26 [.lst false (ml eGRouter raw.Routers), .lst false (ml eGLink raw.Links)])] (by kernel_rfl) ?_
    exact Exists.intro false (And.intro hm (Weak.go [] [] (by kernel_rfl)))
  rintro v_1 hm
  rw [hJ1] at hm
  rcases cs_some hm with ⟨c2, hm⟩ | ⟨c2, hm⟩
  · skip
    refine A.cT rfl c2 ?_
    refine A.skip ?_
    show acode _ _ _ _ _
    refine A.seq ?_
    refine A.block ?_
    refine A.RS W0 [] [] [(5, .ptr 8005 0), (11, .lst true (ml eInt ([xa2, y, vx_3.1, vx_4.1] : List Int))), (12, .lst true (ml eGTopology ([vx_2.1, vx_5.1, raw] : List GTopology))), (13, .int .i64 i_1), (14, .int .i64 (0:Int))] [(8005, .cells 26 [.lst false (ml eGRouter raw.Routers), .lst false (ml eGLink raw.Links)])] (by kernel_rfl) ?_
    refine A.block ?_
    refine A.bS 11 rfl fun hb2 => ?_
    obtain ⟨B2, K2, hB2, hK2, hm⟩ := forI_some hm
    refine A.lpI (l := ([xa2, y, vx_3.1, vx_4.1] : List Int)) (j0 := 0) (B := B2) (K := K2) hm (fun j2 => fun sg => match sg with | () => [(5, .ptr 8005 0), (11, .lst true (ml eInt ([xa2, y, vx_3.1, vx_4.1] : List Int))), (12, .lst true (ml eGTopology ([vx_2.1, vx_5.1, raw] : List GTopology))), (13, .int .i64 i_1), (14, .int .i64 (j2 : Int))]) (fun j2 => fun sg => match sg with | () => [(8005, .cells 26 [.lst false (ml eGRouter raw.Routers), .lst false (ml eGLink raw.Links)])]) ?_ ?_ ?_
    · exact Weak.go [] [] (by kernel_rfl)
    · skip
      rintro j2 e2 Z2 ⟨⟩ hj2 hx2 hm
      rw [hB2] at hm
      refine A.seq ?_
      refine A.RS W0 [] [(2, hto (lnE eInt ([xa2, y, vx_3.1, vx_4.1] : List Int)))] [(5, .ptr 8005 0), (11, .lst true (ml eInt ([xa2, y, vx_3.1, vx_4.1] : List Int))), (12, .lst true (ml eGTopology ([vx_2.1, vx_5.1, raw] : List GTopology))), (13, .int .i64 i_1), (14, .int .i64 (j2 : Int)), (52, .bool (decide ((j2 : Int) < (([xa2, y, vx_3.1, vx_4.1] : List Int).length:Int))))] [(8005, .cells 26 [.lst false (ml eGRouter raw.Routers), .lst false (ml eGLink raw.Links)])] (by kernel_rfl) ?_
      refine A.cT rfl (ltT hx2) ?_
      refine A.skip ?_
      show acode _ _ _ _ _
      refine A.seq ?_
      refine A.block ?_
      refine A.RS W0 [] [(2, hix (ix eInt (elO_nat hx2)))] [(5, .ptr 8005 0), (11, .lst true (ml eInt ([xa2, y, vx_3.1, vx_4.1] : List Int))), (12, .lst true (ml eGTopology ([vx_2.1, vx_5.1, raw] : List GTopology))), (13, .int .i64 i_1), (14, .int .i64 (j2 : Int)), (15, .int .i64 e2)] [(8005, .cells 26 [.lst false (ml eGRouter raw.Routers), .lst false (ml eGLink raw.Links)])] (by kernel_rfl) ?_
      refine A.seq ?_
      obtain ⟨J2, hJ2, hm⟩ := jn_some hm
      refine A.J (J := J2) (r := r) (fun v_2 => [(5, .ptr 8005 0), (11, .lst true (ml eInt ([xa2, y, vx_3.1, vx_4.1] : List Int))), (12, .lst true (ml eGTopology ([vx_2.1, vx_5.1, raw] : List GTopology))), (13, .int .i64 i_1), (14, .int .i64 (j2 : Int)), (15, .int .i64 e2), (102, .bool v_2)]) (fun v_2 => [(8005, .cells 26 [.lst false (ml eGRouter raw.Routers), .lst false (ml eGLink raw.Links)])]) ?_ ?_
      · skip
        obtain ⟨e_1, h7, hm⟩ := bnd_some hm
        obtain ⟨vx_7, h8, hm⟩ := bnd_some hm
        obtain ⟨vx_8, h9, hm⟩ := bnd_some hm
        rcases cs_some hm with ⟨c3, hm⟩ | ⟨c3, hm⟩
        · skip
          refine A.R W0 [] [(2, hix (ix eGTopology h7)), (5, hro (m_topology_Has_ok h8) ck37), (8, hix (ix eGTopology h7)), (11, hro (m_ref05_Has_ok h9) ck38), (13, hto (bE c3))] [(5, .ptr 8005 0), (11, .lst true (ml eInt ([xa2, y, vx_3.1, vx_4.1] : List Int))), (12, .lst true (ml eGTopology ([vx_2.1, vx_5.1, raw] : List GTopology))), (13, .int .i64 i_1), (14, .int .i64 (j2 : Int)), (15, .int .i64 e2), (102, .bool true)] [(8005, .cells 26 [.lst false (ml eGRouter raw.Routers), .lst false (ml eGLink raw.Links)])] (by kernel_rfl) ?_
          exact Exists.intro true (And.intro hm (Weak.go [] [] (by kernel_rfl)))
        obtain ⟨vx_9, h10, hm⟩ := bnd_some hm
        obtain ⟨vx_10, h11, hm⟩ := bnd_some hm
        rcases cs_some hm with ⟨c4, hm⟩ | ⟨c4, hm⟩
        · skip
          refine A.R W0 [] [(2, hix (ix eGTopology h7)), (5, hro (m_topology_Has_ok h8) ck37), (8, hix (ix eGTopology h7)), (11, hro (m_ref05_Has_ok h9) ck38), (13, hto (bE c3)), (16, hix (ix eGTopology h7)), (19, hro (m_topology_Capable_ok h10) ck39), (22, hix (ix eGTopology h7)), (25, hro (m_ref05_Capable_ok h11) ck40), (28, hto (bE c4))] [(5, .ptr 8005 0), (11, .lst true (ml eInt ([xa2, y, vx_3.1, vx_4.1] : List Int))), (12, .lst true (ml eGTopology ([vx_2.1, vx_5.1, raw] : List GTopology))), (13, .int .i64 i_1), (14, .int .i64 (j2 : Int)), (15, .int .i64 e2), (102, .bool true)] [(8005, .cells 26 [.lst false (ml eGRouter raw.Routers), .lst false (ml eGLink raw.Links)])] (by kernel_rfl) ?_
          exact Exists.intro true (And.intro hm (Weak.go [] [] (by kernel_rfl)))
        obtain ⟨vx_11, h12, hm⟩ := bnd_some hm
        obtain ⟨vx_12, h13, hm⟩ := bnd_some hm
        obtain ⟨vx_13, h14, hm⟩ := bnd_some hm
        refine A.R W0 [] [(2, hix (ix eGTopology h7)), (5, hro (m_topology_Has_ok h8) ck37), (8, hix (ix eGTopology h7)), (11, hro (m_ref05_Has_ok h9) ck38), (13, hto (bE c3)), (16, hix (ix eGTopology h7)), (19, hro (m_topology_Capable_ok h10) ck39), (22, hix (ix eGTopology h7)), (25, hro (m_ref05_Capable_ok h11) ck40), (28, hto (bE c4)), (31, hix (ix eGTopology h7)), (34, hro (m_topology_Neighbours_ok h12) ck41), (37, hix (ix eGTopology h7)), (40, hro (m_ref05_Neighbours_ok h13) ck42), (41, hro (m_ref04_Ints_ok h14) ck26)] [(5, .ptr 8005 0), (11, .lst true (ml eInt ([xa2, y, vx_3.1, vx_4.1] : List Int))), (12, .lst true (ml eGTopology ([vx_2.1, vx_5.1, raw] : List GTopology))), (13, .int .i64 i_1), (14, .int .i64 (j2 : Int)), (15, .int .i64 e2), (102, .bool (!vx_13))] [(8005, .cells 26 [.lst false (ml eGRouter raw.Routers), .lst false (ml eGLink raw.Links)])] (by kernel_rfl) ?_
        exact Exists.intro (!vx_13) (And.intro hm (Weak.go [] [] (by kernel_rfl)))
      rintro v_2 hm
      rw [hJ2] at hm
      rcases cs_some hm with ⟨c5, hm⟩ | ⟨c5, hm⟩
      · skip
        refine A.cT rfl c5 ?_
        refine A.RS W0 [] [] [(8, .bool false)] [] (by kernel_rfl) ?_
        refine A.ret ?_
        obtain rfl := some_inj hm
        exact A.fin W0 [] rfl (by kernel_rfl)
      refine A.cF rfl c5 ?_
      refine A.skip ?_
      show acode _ _ _ _ _
      refine A.RS W0 [] [] [(5, .ptr 8005 0), (11, .lst true (ml eInt ([xa2, y, vx_3.1, vx_4.1] : List Int))), (12, .lst true (ml eGTopology ([vx_2.1, vx_5.1, raw] : List GTopology))), (13, .int .i64 i_1), (14, .int .i64 (j2 : Int)), (15, .int .i64 e2), (16, .int .i64 (0:Int))] [(8005, .cells 26 [.lst false (ml eGRouter raw.Routers), .lst false (ml eGLink raw.Links)])] (by kernel_rfl) ?_
      refine A.block ?_
      refine A.bS 11 rfl fun hb3 => ?_
      obtain ⟨B3, K3, hB3, hK3, hm⟩ := forI_some hm
      refine A.lpI (l := ([xa2, y, vx_3.1, vx_4.1] : List Int)) (j0 := 0) (B := B3) (K := K3) hm (fun j3 => fun sg => match sg with | () => [(5, .ptr 8005 0), (11, .lst true (ml eInt ([xa2, y, vx_3.1, vx_4.1] : List Int))), (12, .lst true (ml eGTopology ([vx_2.1, vx_5.1, raw] : List GTopology))), (13, .int .i64 i_1), (14, .int .i64 (j2 : Int)), (15, .int .i64 e2), (16, .int .i64 (j3 : Int))]) (fun j3 => fun sg => match sg with | () => [(8005, .cells 26 [.lst false (ml eGRouter raw.Routers), .lst false (ml eGLink raw.Links)])]) ?_ ?_ ?_
      · exact Weak.go [] [] (by kernel_rfl)
      · skip
        rintro j3 e3 Z3 ⟨⟩ hj3 hx3 hm
        rw [hB3] at hm
        refine A.seq ?_
        refine A.RS W0 [] [(2, hto (lnE eInt ([xa2, y, vx_3.1, vx_4.1] : List Int)))] [(5, .ptr 8005 0), (11, .lst true (ml eInt ([xa2, y, vx_3.1, vx_4.1] : List Int))), (12, .lst true (ml eGTopology ([vx_2.1, vx_5.1, raw] : List GTopology))), (13, .int .i64 i_1), (14, .int .i64 (j2 : Int)), (15, .int .i64 e2), (16, .int .i64 (j3 : Int)), (106, .bool (decide ((j3 : Int) < (([xa2, y, vx_3.1, vx_4.1] : List Int).length:Int))))] [(8005, .cells 26 [.lst false (ml eGRouter raw.Routers), .lst false (ml eGLink raw.Links)])] (by kernel_rfl) ?_
        refine A.cT rfl (ltT hx3) ?_
        refine A.skip ?_
        show acode _ _ _ _ _
        refine A.seq ?_
        refine A.block ?_
        obtain ⟨e_2, h15, hm⟩ := bnd_some hm
        obtain ⟨vx_14, h16, hm⟩ := bnd_some hm
        refine A.RS W0 [] [(2, hix (ix eGTopology h15)), (7, hix (ix eInt (elO_nat hx3))), (9, hro (m_topology_Cost_ok h16) ck43)] [(5, .ptr 8005 0), (11, .lst true (ml eInt ([xa2, y, vx_3.1, vx_4.1] : List Int))), (12, .lst true (ml eGTopology ([vx_2.1, vx_5.1, raw] : List GTopology))), (13, .int .i64 i_1), (14, .int .i64 (j2 : Int)), (15, .int .i64 e2), (16, .int .i64 (j3 : Int)), (17, .int .i64 vx_14.1), (18, .bool vx_14.2)] [(8005, .cells 26 [.lst false (ml eGRouter raw.Routers), .lst false (ml eGLink raw.Links)])] (by kernel_rfl) ?_
        obtain ⟨vx_15, h17, hm⟩ := bnd_some hm
        refine A.RS W0 [] [(2, hix (ix eGTopology h15)), (7, hix (ix eInt (elO_nat hx3))), (9, hro (m_ref05_Cost_ok h17) ck44)] [(5, .ptr 8005 0), (11, .lst true (ml eInt ([xa2, y, vx_3.1, vx_4.1] : List Int))), (12, .lst true (ml eGTopology ([vx_2.1, vx_5.1, raw] : List GTopology))), (13, .int .i64 i_1), (14, .int .i64 (j2 : Int)), (15, .int .i64 e2), (16, .int .i64 (j3 : Int)), (17, .int .i64 vx_14.1), (18, .bool vx_14.2), (19, .int .i64 vx_15.1), (20, .bool vx_15.2)] [(8005, .cells 26 [.lst false (ml eGRouter raw.Routers), .lst false (ml eGLink raw.Links)])] (by kernel_rfl) ?_
        refine A.mid [(5, .ptr 8005 0), (11, .lst true (ml eInt ([xa2, y, vx_3.1, vx_4.1] : List Int))), (12, .lst true (ml eGTopology ([vx_2.1, vx_5.1, raw] : List GTopology))), (13, .int .i64 i_1), (14, .int .i64 (j2 : Int)), (15, .int .i64 e2), (16, .int .i64 (j3 : Int)), (142, .bool ((!decide (vx_14.1 = vx_15.1)) || (!(vx_14.2 == vx_15.2))))] [(8005, .cells 26 [.lst false (ml eGRouter raw.Routers), .lst false (ml eGLink raw.Links)])] (fun hk => ?_) ?_
        · skip
          rcases tf (!decide (vx_14.1 = vx_15.1)) with c6 | c6
          · skip
            exact A.RS W0 [] [(3, hto (bE c6)), (7, hto (orT (q := !(vx_14.2 == vx_15.2)) c6))] _ _ (by kernel_rfl) hk
          exact A.RS W0 [] [(3, hto (bE c6)), (7, hto (orF (q := !(vx_14.2 == vx_15.2)) c6))] _ _ (by kernel_rfl) hk
        rcases cs_some hm with ⟨c7, hm⟩ | ⟨c7, hm⟩
        · skip
          refine A.cT rfl c7 ?_
          refine A.RS W0 [] [] [(8, .bool false)] [] (by kernel_rfl) ?_
          refine A.ret ?_
          obtain rfl := some_inj hm
          exact A.fin W0 [] rfl (by kernel_rfl)
        refine A.cF rfl c7 ?_
        refine A.skip ?_
        show acode _ _ _ _ _
        refine A.R W0 [] [(1, hto (inc hx3 hb3))] [(5, .ptr 8005 0), (11, .lst true (ml eInt ([xa2, y, vx_3.1, vx_4.1] : List Int))), (12, .lst true (ml eGTopology ([vx_2.1, vx_5.1, raw] : List GTopology))), (13, .int .i64 i_1), (14, .int .i64 (j2 : Int)), (15, .int .i64 e2), (16, .int .i64 ((j3 + 1 : Nat) : Int))] [(8005, .cells 26 [.lst false (ml eGRouter raw.Routers), .lst false (ml eGLink raw.Links)])] (by kernel_rfl) ?_
        exact Exists.intro () (And.intro hm (Weak.go [] [] (by kernel_rfl)))
      rintro j3 ⟨⟩ hj3 hl3 hm
      rw [hK3] at hm
      refine A.seq ?_
      refine A.RS W0 [] [(2, hto (lnE eInt ([xa2, y, vx_3.1, vx_4.1] : List Int)))] [(5, .ptr 8005 0), (11, .lst true (ml eInt ([xa2, y, vx_3.1, vx_4.1] : List Int))), (12, .lst true (ml eGTopology ([vx_2.1, vx_5.1, raw] : List GTopology))), (13, .int .i64 i_1), (14, .int .i64 (j2 : Int)), (15, .int .i64 e2), (16, .int .i64 (j3 : Int)), (106, .bool (decide ((j3 : Int) < (([xa2, y, vx_3.1, vx_4.1] : List Int).length:Int))))] [(8005, .cells 26 [.lst false (ml eGRouter raw.Routers), .lst false (ml eGLink raw.Links)])] (by kernel_rfl) ?_
      refine A.cF rfl (ltF hl3) ?_
      refine A.exit ?_
      show acode _ _ _ _ _
      refine A.R W0 [] [(1, hto (inc hx2 hb2))] [(5, .ptr 8005 0), (11, .lst true (ml eInt ([xa2, y, vx_3.1, vx_4.1] : List Int))), (12, .lst true (ml eGTopology ([vx_2.1, vx_5.1, raw] : List GTopology))), (13, .int .i64 i_1), (14, .int .i64 ((j2 + 1 : Nat) : Int))] [(8005, .cells 26 [.lst false (ml eGRouter raw.Routers), .lst false (ml eGLink raw.Links)])] (by kernel_rfl) ?_
      exact Exists.intro () (And.intro hm (Weak.go [] [] (by kernel_rfl)))
    rintro j2 ⟨⟩ hj2 hl2 hm
    rw [hK2] at hm
    refine A.seq ?_
    refine A.RS W0 [] [(2, hto (lnE eInt ([xa2, y, vx_3.1, vx_4.1] : List Int)))] [(5, .ptr 8005 0), (11, .lst true (ml eInt ([xa2, y, vx_3.1, vx_4.1] : List Int))), (12, .lst true (ml eGTopology ([vx_2.1, vx_5.1, raw] : List GTopology))), (13, .int .i64 i_1), (14, .int .i64 (j2 : Int)), (52, .bool (decide ((j2 : Int) < (([xa2, y, vx_3.1, vx_4.1] : List Int).length:Int))))] [(8005, .cells 26 [.lst false (ml eGRouter raw.Routers), .lst false (ml eGLink raw.Links)])] (by kernel_rfl) ?_
    refine A.cF rfl (ltF hl2) ?_
    refine A.exit ?_
    show acode _ _ _ _ _
    refine A.R W0 [] [] [(5, .ptr 8005 0), (11, .lst true (ml eInt ([xa2, y, vx_3.1, vx_4.1] : List Int))), (12, .lst true (ml eGTopology ([vx_2.1, vx_5.1, raw] : List GTopology))), (13, .int .i64 (w64 (i_1 + (1:Int))))] [(8005, .cells 26 [.lst false (ml eGRouter raw.Routers), .lst false (ml eGLink raw.Links)])] (by kernel_rfl) ?_
    exact Exists.intro (w64 (i_1 + (1:Int))) (And.intro hm (Weak.go [] [] (by kernel_rfl)))
  refine A.cF rfl c2 ?_
  refine A.exit ?_
  show acode _ _ _ _ _
  obtain ⟨vx_16, h18, hm⟩ := bnd_some hm
  refine A.RS W0 [] [(0, hro (m_law05_awake_ok h18) ck16)] [(8, .bool vx_16)] [] (by kernel_rfl) ?_
  refine A.ret ?_
  obtain rfl := some_inj hm
  exact A.fin W0 [] rfl (by kernel_rfl)
end Go.Proofs.Ytggbjbcgfelgiaa
