/- The walks of functions of the program. No condition but those that stand in each. -/
import Derived.Test.YtjckghpceekieaaDL3
import Derived.Test.YtjckghpceekieaaV8
import Derived.Test.YtjckghpceekieaaVT
import Derived.Test.YtjckghpceekieaaVL
namespace Go.Proofs.Ytjckghpceekieaa
open Go
set_option maxRecDepth 100000
set_option linter.all false
theorem m_law08_DatabaseAgrees_ok {t : List Int} {r : Bool} (hm : m_law08_DatabaseAgrees t = some r) : RO Try.prog 3 [] [.lst false (ml eInt t)] (.bool r) := by
  refine enterA Try.func3 rfl rfl ?_
  unfold m_law08_DatabaseAgrees at hm
  refine A.RS W0 [] [] [(0, .lst false (ml eInt t))] [] (by kernel_rfl) ?_
  obtain ⟨vx_1, h1, hm⟩ := bnd_some hm
  refine A.RS W0 [] [(1, hdc [900000073] (m_mk_New_ok h1) ck7)] [(3, .ptr 900000073 0)] [(900000073, .cells 73 [.lst false (ml eInt vx_1.L), .int .i64 vx_1.At])] (by kernel_rfl) ?_
  obtain ⟨vx_2, h2, hm⟩ := bnd_some hm
  refine A.RS W0 [] [(1, hdc [] (m_mk_Tape_Database_ok h2) ck8), (2, .al 3004)] [(3, .ptr 900000073 0), (4, .ptr 3004 0)] [(900000073, .cells 73 [.lst false (ml eInt vx_2.2.L), .int .i64 vx_2.2.At]), (3004, .cells 27 [.lst false (ml eGAdvert vx_2.1.Adverts)])] (by kernel_rfl) ?_
  obtain ⟨vx_3, h3, hm⟩ := bnd_some hm
  refine A.RS W0 [] [(1, hdc [] (m_mk_Tape_Range_ok h3) ck9)] [(4, .ptr 3004 0), (5, .int .i64 vx_3.1)] [(3004, .cells 27 [.lst false (ml eGAdvert vx_2.1.Adverts)])] (by kernel_rfl) ?_
  obtain ⟨vx_4, h4, hm⟩ := bnd_some hm
  refine A.RS W0 [] [(2, hro (m_database_View_ok h4) ck10), (3, .al 3006)] [(4, .ptr 3004 0), (5, .int .i64 vx_3.1), (6, .ptr 3006 0)] [(3004, .cells 27 [.lst false (ml eGAdvert vx_2.1.Adverts)]), (3006, .cells 33 [.lst false (ml eGRouter vx_4.Routers), .lst false (ml eGLink vx_4.Links)])] (by kernel_rfl) ?_
  obtain ⟨vx_5, h5, hm⟩ := bnd_some hm
  refine A.RS W0 [] [(2, hro (m_ref08_Find_ok h5) ck11), (6, .al 3007)] [(4, .ptr 3004 0), (5, .int .i64 vx_3.1), (6, .ptr 3006 0), (8, .bool vx_5.2)] [(3004, .cells 27 [.lst false (ml eGAdvert vx_2.1.Adverts)]), (3006, .cells 33 [.lst false (ml eGRouter vx_4.Routers), .lst false (ml eGLink vx_4.Links)])] (by kernel_rfl) ?_
  refine A.seq ?_
  obtain ⟨J1, hJ1, hm⟩ := jn_some hm
  refine A.J (J := J1) (r := r) (fun v_1 => [(4, .ptr 3004 0), (5, .int .i64 vx_3.1), (6, .ptr 3006 0), (43, .bool v_1)]) (fun v_1 => [(3004, .cells 27 [.lst false (ml eGAdvert vx_2.1.Adverts)]), (3006, .cells 33 [.lst false (ml eGRouter vx_4.Routers), .lst false (ml eGLink vx_4.Links)])]) ?_ ?_
  · skip
    obtain ⟨vx_6, h6, hm⟩ := bnd_some hm
    rcases cs_some hm with ⟨c1, hm⟩ | ⟨c1, hm⟩
    · skip
      refine A.R W0 [] [(1, hro (m_ref05_Check_ok h6) ck12), (3, hto (bE c1))] [(4, .ptr 3004 0), (5, .int .i64 vx_3.1), (6, .ptr 3006 0), (43, .bool true)] [(3004, .cells 27 [.lst false (ml eGAdvert vx_2.1.Adverts)]), (3006, .cells 33 [.lst false (ml eGRouter vx_4.Routers), .lst false (ml eGLink vx_4.Links)])] (by kernel_rfl) ?_
      exact Exists.intro true (And.intro hm (Weak.go [] [] (by kernel_rfl)))
    obtain ⟨vx_7, h7, hm⟩ := bnd_some hm
    refine A.R W0 [] [(1, hro (m_ref05_Check_ok h6) ck12), (3, hto (bE c1)), (6, hro (m_ref05_Has_ok h7) ck13)] [(4, .ptr 3004 0), (5, .int .i64 vx_3.1), (6, .ptr 3006 0), (43, .bool (!(vx_7 == vx_5.2)))] [(3004, .cells 27 [.lst false (ml eGAdvert vx_2.1.Adverts)]), (3006, .cells 33 [.lst false (ml eGRouter vx_4.Routers), .lst false (ml eGLink vx_4.Links)])] (by kernel_rfl) ?_
    exact Exists.intro (!(vx_7 == vx_5.2)) (And.intro hm (Weak.go [] [] (by kernel_rfl)))
  rintro v_1 hm
  rw [hJ1] at hm
  rcases cs_some hm with ⟨c2, hm⟩ | ⟨c2, hm⟩
  · skip
    refine A.cT rfl c2 ?_
    refine A.RS W0 [] [] [(2, .bool false)] [] (by kernel_rfl) ?_
    refine A.ret ?_
    obtain rfl := some_inj hm
    exact A.fin W0 [] rfl (by kernel_rfl)
  refine A.cF rfl c2 ?_
  refine A.skip ?_
  show acode _ _ _ _ _
  refine A.seq ?_
  refine A.RS W0 [] [] [(4, .ptr 3004 0), (5, .int .i64 vx_3.1), (6, .ptr 3006 0), (9, .int .i64 (0:Int))] [(3004, .cells 27 [.lst false (ml eGAdvert vx_2.1.Adverts)]), (3006, .cells 33 [.lst false (ml eGRouter vx_4.Routers), .lst false (ml eGLink vx_4.Links)])] (by kernel_rfl) ?_
  refine A.block ?_
  refine A.bC 6 0 rfl rfl rfl fun hb1 => ?_
  obtain ⟨B1, K1, hB1, hK1, hm⟩ := forI_some hm
  refine A.lpI (l := vx_4.Routers) (j0 := 0) (B := B1) (K := K1) hm (fun j1 => fun sg => match sg with | () => [(4, .ptr 3004 0), (5, .int .i64 vx_3.1), (6, .ptr 3006 0), (9, .int .i64 (j1 : Int))]) (fun j1 => fun sg => match sg with | () => [(3004, .cells 27 [.lst false (ml eGAdvert vx_2.1.Adverts)]), (3006, .cells 33 [.lst false (ml eGRouter vx_4.Routers), .lst false (ml eGLink vx_4.Links)])]) ?_ ?_ ?_
  · exact Weak.go [] [] (by kernel_rfl)
  · skip
    rintro j1 e1 Z1 ⟨⟩ hj1 hx1 hm
    rw [hB1] at hm
    refine A.seq ?_
    refine A.RS W0 [] [(3, hto (lnE eGRouter vx_4.Routers))] [(4, .ptr 3004 0), (5, .int .i64 vx_3.1), (6, .ptr 3006 0), (9, .int .i64 (j1 : Int)), (48, .bool (decide ((j1 : Int) < (vx_4.Routers.length:Int))))] [(3004, .cells 27 [.lst false (ml eGAdvert vx_2.1.Adverts)]), (3006, .cells 33 [.lst false (ml eGRouter vx_4.Routers), .lst false (ml eGLink vx_4.Links)])] (by kernel_rfl) ?_
    refine A.cT rfl (ltT hx1) ?_
    refine A.skip ?_
    show acode _ _ _ _ _
    refine A.seq ?_
    refine A.block ?_
    obtain ⟨J2, hJ2, hm⟩ := jn_some hm
    refine A.J (J := J2) (r := r) (fun v_2 => [(4, .ptr 3004 0), (5, .int .i64 vx_3.1), (6, .ptr 3006 0), (9, .int .i64 (j1 : Int)), (73, .bool v_2)]) (fun v_2 => [(3004, .cells 27 [.lst false (ml eGAdvert vx_2.1.Adverts)]), (3006, .cells 33 [.lst false (ml eGRouter vx_4.Routers), .lst false (ml eGLink vx_4.Links)])]) ?_ ?_
    · skip
      obtain ⟨vx_8, h8, hm⟩ := bnd_some hm
      rcases cs_some hm with ⟨c3, hm⟩ | ⟨c3, hm⟩
      · skip
        refine A.R W0 [] [(5, hix (ix eGRouter (elO_nat hx1))), (8, hro (m_ref05_Connected_ok h8) ck14), (10, hto (bE c3))] [(4, .ptr 3004 0), (5, .int .i64 vx_3.1), (6, .ptr 3006 0), (9, .int .i64 (j1 : Int)), (73, .bool true)] [(3004, .cells 27 [.lst false (ml eGAdvert vx_2.1.Adverts)]), (3006, .cells 33 [.lst false (ml eGRouter vx_4.Routers), .lst false (ml eGLink vx_4.Links)])] (by kernel_rfl) ?_
        exact Exists.intro true (And.intro hm (Weak.go [] [] (by kernel_rfl)))
      obtain ⟨vx_9, h9, hm⟩ := bnd_some hm
      obtain ⟨vx_10, h10, hm⟩ := bnd_some hm
      refine A.R W0 [] [(5, hix (ix eGRouter (elO_nat hx1))), (8, hro (m_ref05_Connected_ok h8) ck14), (10, hto (bE c3)), (15, hix (ix eGRouter (elO_nat hx1))), (18, hro (m_database_View_ok h9) ck10), (20, hro (m_ref05_Same_ok h10) ck15)] [(4, .ptr 3004 0), (5, .int .i64 vx_3.1), (6, .ptr 3006 0), (9, .int .i64 (j1 : Int)), (73, .bool (!vx_10))] [(3004, .cells 27 [.lst false (ml eGAdvert vx_2.1.Adverts)]), (3006, .cells 33 [.lst false (ml eGRouter vx_4.Routers), .lst false (ml eGLink vx_4.Links)])] (by kernel_rfl) ?_
      exact Exists.intro (!vx_10) (And.intro hm (Weak.go [] [] (by kernel_rfl)))
    rintro v_2 hm
    rw [hJ2] at hm
    rcases cs_some hm with ⟨c4, hm⟩ | ⟨c4, hm⟩
    · skip
      refine A.cT rfl c4 ?_
      refine A.RS W0 [] [] [(2, .bool false)] [] (by kernel_rfl) ?_
      refine A.ret ?_
      obtain rfl := some_inj hm
      exact A.fin W0 [] rfl (by kernel_rfl)
    refine A.cF rfl c4 ?_
    refine A.skip ?_
    show acode _ _ _ _ _
    refine A.R W0 [] [(1, hto (inc hx1 hb1))] [(4, .ptr 3004 0), (5, .int .i64 vx_3.1), (6, .ptr 3006 0), (9, .int .i64 ((j1 + 1 : Nat) : Int))] [(3004, .cells 27 [.lst false (ml eGAdvert vx_2.1.Adverts)]), (3006, .cells 33 [.lst false (ml eGRouter vx_4.Routers), .lst false (ml eGLink vx_4.Links)])] (by kernel_rfl) ?_
    exact Exists.intro () (And.intro hm (Weak.go [] [] (by kernel_rfl)))
  rintro j1 ⟨⟩ hj1 hl1 hm
  rw [hK1] at hm
  refine A.seq ?_
  refine A.RS W0 [] [(3, hto (lnE eGRouter vx_4.Routers))] [(4, .ptr 3004 0), (5, .int .i64 vx_3.1), (6, .ptr 3006 0), (9, .int .i64 (j1 : Int)), (48, .bool (decide ((j1 : Int) < (vx_4.Routers.length:Int))))] [(3004, .cells 27 [.lst false (ml eGAdvert vx_2.1.Adverts)]), (3006, .cells 33 [.lst false (ml eGRouter vx_4.Routers), .lst false (ml eGLink vx_4.Links)])] (by kernel_rfl) ?_
  refine A.cF rfl (ltF hl1) ?_
  refine A.exit ?_
  show acode _ _ _ _ _
  refine A.seq ?_
  refine A.RS W0 [] [] [(4, .ptr 3004 0), (6, .ptr 3006 0), (10, .int .i64 (0:Int))] [(3004, .cells 27 [.lst false (ml eGAdvert vx_2.1.Adverts)]), (3006, .cells 33 [.lst false (ml eGRouter vx_4.Routers), .lst false (ml eGLink vx_4.Links)])] (by kernel_rfl) ?_
  refine A.block ?_
  refine A.bC 6 1 rfl rfl rfl fun hb2 => ?_
  obtain ⟨B2, K2, hB2, hK2, hm⟩ := forI_some hm
  refine A.lpI (l := vx_4.Links) (j0 := 0) (B := B2) (K := K2) hm (fun j2 => fun sg => match sg with | () => [(4, .ptr 3004 0), (6, .ptr 3006 0), (10, .int .i64 (j2 : Int))]) (fun j2 => fun sg => match sg with | () => [(3004, .cells 27 [.lst false (ml eGAdvert vx_2.1.Adverts)]), (3006, .cells 33 [.lst false (ml eGRouter vx_4.Routers), .lst false (ml eGLink vx_4.Links)])]) ?_ ?_ ?_
  · exact Weak.go [] [] (by kernel_rfl)
  · skip
    rintro j2 e2 Z2 ⟨⟩ hj2 hx2 hm
    rw [hB2] at hm
    refine A.seq ?_
    refine A.RS W0 [] [(3, hto (lnE eGLink vx_4.Links))] [(4, .ptr 3004 0), (6, .ptr 3006 0), (10, .int .i64 (j2 : Int)), (78, .bool (decide ((j2 : Int) < (vx_4.Links.length:Int))))] [(3004, .cells 27 [.lst false (ml eGAdvert vx_2.1.Adverts)]), (3006, .cells 33 [.lst false (ml eGRouter vx_4.Routers), .lst false (ml eGLink vx_4.Links)])] (by kernel_rfl) ?_
    refine A.cT rfl (ltT hx2) ?_
    refine A.skip ?_
    show acode _ _ _ _ _
    refine A.seq ?_
    refine A.block ?_
    obtain ⟨vx_11, h11, hm⟩ := bnd_some hm
    refine A.RS W0 [] [(4, hix (ix eGLink (elO_nat hx2))), (7, hro (m_ref08_Find_ok h11) ck11), (11, .al 3011)] [(4, .ptr 3004 0), (6, .ptr 3006 0), (10, .int .i64 (j2 : Int)), (11, .ptr 3011 0)] [(3004, .cells 27 [.lst false (ml eGAdvert vx_2.1.Adverts)]), (3006, .cells 33 [.lst false (ml eGRouter vx_4.Routers), .lst false (ml eGLink vx_4.Links)]), (3011, .cells 38 [.int .i64 vx_11.1.Router, .int .i64 vx_11.1.Seq, .bool vx_11.1.Capable, .lst false (ml eGReach vx_11.1.Links), .lst false (ml eGClaim vx_11.1.Claims)])] (by kernel_rfl) ?_
    obtain ⟨vx_12, h12, hm⟩ := bnd_some hm
    refine A.RS W0 [] [(4, hix (ix eGLink (elO_nat hx2))), (7, hro (m_ref08_Find_ok h12) ck11), (11, .al 3013)] [(4, .ptr 3004 0), (6, .ptr 3006 0), (10, .int .i64 (j2 : Int)), (11, .ptr 3011 0), (13, .ptr 3013 0)] [(3004, .cells 27 [.lst false (ml eGAdvert vx_2.1.Adverts)]), (3006, .cells 33 [.lst false (ml eGRouter vx_4.Routers), .lst false (ml eGLink vx_4.Links)]), (3011, .cells 38 [.int .i64 vx_11.1.Router, .int .i64 vx_11.1.Seq, .bool vx_11.1.Capable, .lst false (ml eGReach vx_11.1.Links), .lst false (ml eGClaim vx_11.1.Claims)]), (3013, .cells 38 [.int .i64 vx_12.1.Router, .int .i64 vx_12.1.Seq, .bool vx_12.1.Capable, .lst false (ml eGReach vx_12.1.Links), .lst false (ml eGClaim vx_12.1.Claims)])] (by kernel_rfl) ?_
    obtain ⟨vx_13, h13, hm⟩ := bnd_some hm
    refine A.RS W0 [] [(4, hix (ix eGLink (elO_nat hx2))), (7, hro (m_ref08_Reach_ok h13) ck16), (11, .al 3015)] [(4, .ptr 3004 0), (6, .ptr 3006 0), (10, .int .i64 (j2 : Int)), (13, .ptr 3013 0), (15, .ptr 3015 0), (16, .bool vx_13.2)] [(3004, .cells 27 [.lst false (ml eGAdvert vx_2.1.Adverts)]), (3006, .cells 33 [.lst false (ml eGRouter vx_4.Routers), .lst false (ml eGLink vx_4.Links)]), (3013, .cells 38 [.int .i64 vx_12.1.Router, .int .i64 vx_12.1.Seq, .bool vx_12.1.Capable, .lst false (ml eGReach vx_12.1.Links), .lst false (ml eGClaim vx_12.1.Claims)]), (3015, .cells 51 [.int .i64 vx_13.1.Neighbour, .int .i64 vx_13.1.Cost, .int .i64 vx_13.1.Capacity])] (by kernel_rfl) ?_
    obtain ⟨vx_14, h14, hm⟩ := bnd_some hm
    refine A.RS W0 [] [(4, hix (ix eGLink (elO_nat hx2))), (7, hro (m_ref08_Reach_ok h14) ck16), (11, .al 3017)] [(4, .ptr 3004 0), (6, .ptr 3006 0), (10, .int .i64 (j2 : Int)), (15, .ptr 3015 0), (16, .bool vx_13.2), (17, .ptr 3017 0), (18, .bool vx_14.2)] [(3004, .cells 27 [.lst false (ml eGAdvert vx_2.1.Adverts)]), (3006, .cells 33 [.lst false (ml eGRouter vx_4.Routers), .lst false (ml eGLink vx_4.Links)]), (3015, .cells 51 [.int .i64 vx_13.1.Neighbour, .int .i64 vx_13.1.Cost, .int .i64 vx_13.1.Capacity]), (3017, .cells 51 [.int .i64 vx_14.1.Neighbour, .int .i64 vx_14.1.Cost, .int .i64 vx_14.1.Capacity])] (by kernel_rfl) ?_
    refine A.mid [(4, .ptr 3004 0), (6, .ptr 3006 0), (10, .int .i64 (j2 : Int)), (152, .bool ((!vx_13.2) || ((!vx_14.2) || ((!decide (vx_13.1.Cost = e2.CostA)) || (!decide (vx_14.1.Cost = e2.CostB))))))] [(3004, .cells 27 [.lst false (ml eGAdvert vx_2.1.Adverts)]), (3006, .cells 33 [.lst false (ml eGRouter vx_4.Routers), .lst false (ml eGLink vx_4.Links)])] (fun hk => ?_) ?_
    · skip
      rcases tf (!vx_13.2) with c5 | c5
      · skip
        exact A.RS W0 [] [(2, hto (bE c5)), (27, hto (orT (q := ((!vx_14.2) || ((!decide (vx_13.1.Cost = e2.CostA)) || (!decide (vx_14.1.Cost = e2.CostB))))) c5))] _ _ (by kernel_rfl) hk
      rcases tf (!vx_14.2) with c6 | c6
      · skip
        exact A.RS W0 [] [(2, hto (bE c5)), (6, hto (bE c6)), (27, hto ((orT (q := ((!decide (vx_13.1.Cost = e2.CostA)) || (!decide (vx_14.1.Cost = e2.CostB)))) c6).trans (orF (q := ((!vx_14.2) || ((!decide (vx_13.1.Cost = e2.CostA)) || (!decide (vx_14.1.Cost = e2.CostB))))) c5)))] _ _ (by kernel_rfl) hk
      rcases tf (!decide (vx_13.1.Cost = e2.CostA)) with c7 | c7
      · skip
        exact A.RS W0 [] [(2, hto (bE c5)), (6, hto (bE c6)), (12, hix (ix eGLink (elO_nat hx2))), (17, hto (bE c7)), (27, hto (((orT (q := !decide (vx_14.1.Cost = e2.CostB)) c7).trans (orF (q := ((!decide (vx_13.1.Cost = e2.CostA)) || (!decide (vx_14.1.Cost = e2.CostB)))) c6)).trans (orF (q := ((!vx_14.2) || ((!decide (vx_13.1.Cost = e2.CostA)) || (!decide (vx_14.1.Cost = e2.CostB))))) c5)))] _ _ (by kernel_rfl) hk
      exact A.RS W0 [] [(2, hto (bE c5)), (6, hto (bE c6)), (12, hix (ix eGLink (elO_nat hx2))), (17, hto (bE c7)), (23, hix (ix eGLink (elO_nat hx2))), (27, hto (((orF (q := !decide (vx_14.1.Cost = e2.CostB)) c7).trans (orF (q := ((!decide (vx_13.1.Cost = e2.CostA)) || (!decide (vx_14.1.Cost = e2.CostB)))) c6)).trans (orF (q := ((!vx_14.2) || ((!decide (vx_13.1.Cost = e2.CostA)) || (!decide (vx_14.1.Cost = e2.CostB))))) c5)))] _ _ (by kernel_rfl) hk
    rcases cs_some hm with ⟨c8, hm⟩ | ⟨c8, hm⟩
    · skip
      refine A.cT rfl c8 ?_
      refine A.RS W0 [] [] [(2, .bool false)] [] (by kernel_rfl) ?_
      refine A.ret ?_
      obtain rfl := some_inj hm
      exact A.fin W0 [] rfl (by kernel_rfl)
    refine A.cF rfl c8 ?_
    refine A.skip ?_
    show acode _ _ _ _ _
    refine A.R W0 [] [(1, hto (inc hx2 hb2))] [(4, .ptr 3004 0), (6, .ptr 3006 0), (10, .int .i64 ((j2 + 1 : Nat) : Int))] [(3004, .cells 27 [.lst false (ml eGAdvert vx_2.1.Adverts)]), (3006, .cells 33 [.lst false (ml eGRouter vx_4.Routers), .lst false (ml eGLink vx_4.Links)])] (by kernel_rfl) ?_
    exact Exists.intro () (And.intro hm (Weak.go [] [] (by kernel_rfl)))
  rintro j2 ⟨⟩ hj2 hl2 hm
  rw [hK2] at hm
  refine A.seq ?_
  refine A.RS W0 [] [(3, hto (lnE eGLink vx_4.Links))] [(4, .ptr 3004 0), (6, .ptr 3006 0), (10, .int .i64 (j2 : Int)), (78, .bool (decide ((j2 : Int) < (vx_4.Links.length:Int))))] [(3004, .cells 27 [.lst false (ml eGAdvert vx_2.1.Adverts)]), (3006, .cells 33 [.lst false (ml eGRouter vx_4.Routers), .lst false (ml eGLink vx_4.Links)])] (by kernel_rfl) ?_
  refine A.cF rfl (ltF hl2) ?_
  refine A.exit ?_
  show acode _ _ _ _ _
  obtain ⟨vx_15, h15, hm⟩ := bnd_some hm
  refine A.RS W0 [] [(0, hro (m_law08_awake_ok h15) ck17)] [(2, .bool vx_15)] [] (by kernel_rfl) ?_
  refine A.ret ?_
  obtain rfl := some_inj hm
  exact A.fin W0 [] rfl (by kernel_rfl)
end Go.Proofs.Ytjckghpceekieaa
