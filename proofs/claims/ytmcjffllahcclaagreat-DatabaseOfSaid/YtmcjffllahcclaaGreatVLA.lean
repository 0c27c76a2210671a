/- The walks of functions of the program. No condition but those that stand in each. -/
import Derived.Test.YtmcjffllahcclaaGreatDLA
import Derived.Test.YtmcjffllahcclaaGreatVO
import Derived.Test.YtmcjffllahcclaaGreatVT
import Derived.Test.YtmcjffllahcclaaGreatVL
import Derived.Test.YtmcjffllahcclaaGreatVU
namespace Go.Proofs.YtmcjffllahcclaaGreat
open Go
set_option maxRecDepth 100000
set_option linter.all false
theorem m_law08_DatabaseOf_ok {t : List Int} {r : Bool} (hm : m_law08_DatabaseOf t = some r) : RO Tryz.prog 4 [] [.lst false (ml eInt t)] (.bool r) := by
  refine enterA Tryz.func4 rfl rfl ?_
  unfold m_law08_DatabaseOf at hm
  refine A.RS W0 [] [] [(0, .lst false (ml eInt t))] [] (by kernel_rfl) ?_
  obtain ⟨vx_1, h1, hm⟩ := bnd_some hm
  refine A.RS W0 [] [(1, hdc [900000071] (m_mk_New_ok h1) ck7)] [(3, .ptr 900000071 0)] [(900000071, .cells 71 [.lst false (ml eInt vx_1.L), .int .i64 vx_1.At])] (by kernel_rfl) ?_
  obtain ⟨vx_2, h2, hm⟩ := bnd_some hm
  refine A.RS W0 [] [(1, hdc [] (m_mk_Tape_Mixed_ok h2) ck18), (2, .al 4004)] [(3, .ptr 900000071 0), (4, .ptr 4004 0)] [(900000071, .cells 71 [.lst false (ml eInt vx_2.2.L), .int .i64 vx_2.2.At]), (4004, .cells 46 [.lst false (ml eGRouter vx_2.1.Routers), .lst false (ml eGLink vx_2.1.Links)])] (by kernel_rfl) ?_
  refine A.RS W0 [] [(0, .al 4005)] [(3, .ptr 900000071 0), (4, .ptr 4004 0), (5, .ptr 4005 0)] [(900000071, .cells 71 [.lst false (ml eInt vx_2.2.L), .int .i64 vx_2.2.At]), (4004, .cells 46 [.lst false (ml eGRouter vx_2.1.Routers), .lst false (ml eGLink vx_2.1.Links)]), (4005, .cells 25 [.nils])] (by kernel_rfl) ?_
  refine A.seq ?_
  refine A.RS W0 [] [] [(3, .ptr 900000071 0), (4, .ptr 4004 0), (5, .ptr 4005 0), (6, .int .i64 (0:Int))] [(900000071, .cells 71 [.lst false (ml eInt vx_2.2.L), .int .i64 vx_2.2.At]), (4004, .cells 46 [.lst false (ml eGRouter vx_2.1.Routers), .lst false (ml eGLink vx_2.1.Links)]), (4005, .cells 25 [.nils])] (by kernel_rfl) ?_
  refine A.block ?_
  refine A.bC 4 0 rfl rfl rfl fun hb1 => ?_
  obtain ⟨B1, K1, hB1, hK1, hm⟩ := forI_some hm
  refine A.lpI (l := vx_2.1.Routers) (j0 := 0) (B := B1) (K := K1) hm (fun j1 => fun sg => match sg with | (m_1, m_2, m_3) => [(3, .ptr 900000071 0), (4, .ptr 4004 0), (5, .ptr 4005 0), (6, .int .i64 (j1 : Int))]) (fun j1 => fun sg => match sg with | (m_1, m_2, m_3) => [(900000071, .cells 71 [.lst false (ml eInt m_2), .int .i64 m_3]), (4004, .cells 46 [.lst false (ml eGRouter vx_2.1.Routers), .lst false (ml eGLink vx_2.1.Links)]), (4005, .cells 25 [.lst false (ml eGAdvert m_1)])]) ?_ ?_ ?_
  · exact Weak.go [.sc 4005 [900000071, 4004, 4005]] [] (by kernel_rfl)
  · skip
    rintro j1 e1 Z1 ⟨m_1, m_2, m_3⟩ hj1 hx1 hm
    rw [hB1] at hm
    refine A.seq ?_
    refine A.RS W0 [] [(3, hto (lnE eGRouter vx_2.1.Routers))] [(3, .ptr 900000071 0), (4, .ptr 4004 0), (5, .ptr 4005 0), (6, .int .i64 (j1 : Int)), (21, .bool (decide ((j1 : Int) < (vx_2.1.Routers.length:Int))))] [(900000071, .cells 71 [.lst false (ml eInt m_2), .int .i64 m_3]), (4004, .cells 46 [.lst false (ml eGRouter vx_2.1.Routers), .lst false (ml eGLink vx_2.1.Links)]), (4005, .cells 25 [.lst false (ml eGAdvert m_1)])] (by kernel_rfl) ?_
    refine A.cT rfl (ltT hx1) ?_
    refine A.skip ?_
    show acode _ _ _ _ _
    refine A.seq ?_
    refine A.block ?_
    obtain ⟨vx_3, h3, hm⟩ := bnd_some hm
    obtain ⟨vx_4, h4, hm⟩ := bnd_some hm
    refine A.RS W0 [] [(4, hix (ix eGRouter (elO_nat hx1))), (8, hdc [] (m_mk_Tape_Next_ok h3) ck12), (10, hro (m_ref07_Of_ok h4) ck19), (14, .al 4007)] [(3, .ptr 900000071 0), (4, .ptr 4004 0), (5, .ptr 4005 0), (6, .int .i64 (j1 : Int)), (7, .ptr 4007 0), (8, .int .i64 vx_4.2)] [(900000071, .cells 71 [.lst false (ml eInt vx_3.2.L), .int .i64 vx_3.2.At]), (4004, .cells 46 [.lst false (ml eGRouter vx_2.1.Routers), .lst false (ml eGLink vx_2.1.Links)]), (4005, .cells 25 [.lst false (ml eGAdvert m_1)]), (4007, .cells 29 [.int .i64 vx_4.1.Router, .int .i64 vx_4.1.Seq, .bool vx_4.1.Capable, .lst false (ml eGReach vx_4.1.Links), .lst false (ml eGClaim vx_4.1.Claims)])] (by kernel_rfl) ?_
    refine A.seq ?_
    refine A.RS W0 [] [] [(3, .ptr 900000071 0), (4, .ptr 4004 0), (5, .ptr 4005 0), (6, .int .i64 (j1 : Int)), (7, .ptr 4007 0), (39, .bool (!decide (vx_4.2 = (0:Int))))] [(900000071, .cells 71 [.lst false (ml eInt vx_3.2.L), .int .i64 vx_3.2.At]), (4004, .cells 46 [.lst false (ml eGRouter vx_2.1.Routers), .lst false (ml eGLink vx_2.1.Links)]), (4005, .cells 25 [.lst false (ml eGAdvert m_1)]), (4007, .cells 29 [.int .i64 vx_4.1.Router, .int .i64 vx_4.1.Seq, .bool vx_4.1.Capable, .lst false (ml eGReach vx_4.1.Links), .lst false (ml eGClaim vx_4.1.Claims)])] (by kernel_rfl) ?_
    rcases cs_some hm with ⟨c1, hm⟩ | ⟨c1, hm⟩
    · skip
      refine A.cT rfl c1 ?_
      refine A.RS W0 [] [] [(2, .bool false)] [] (by kernel_rfl) ?_
      refine A.ret ?_
      obtain rfl := some_inj hm
      exact A.fin W0 [] rfl (by kernel_rfl)
    refine A.cF rfl c1 ?_
    refine A.skip ?_
    show acode _ _ _ _ _
    obtain ⟨vx_5, h5, hm⟩ := bnd_some hm
    refine A.R W0 [] [(2, hro (m_database_Put_ok h5) ck13)] [(3, .ptr 900000071 0), (4, .ptr 4004 0), (5, .ptr 4005 0), (6, .int .i64 (j1 : Int))] [(900000071, .cells 71 [.lst false (ml eInt vx_3.2.L), .int .i64 vx_3.2.At]), (4004, .cells 46 [.lst false (ml eGRouter vx_2.1.Routers), .lst false (ml eGLink vx_2.1.Links)]), (4005, .cells 25 [.lst false (ml eGAdvert vx_5.1.Adverts)])] (by kernel_rfl) ?_
    show acode _ _ _ _ _
    refine A.R W0 [] [(1, hto (inc hx1 hb1))] [(3, .ptr 900000071 0), (4, .ptr 4004 0), (5, .ptr 4005 0), (6, .int .i64 ((j1 + 1 : Nat) : Int))] [(900000071, .cells 71 [.lst false (ml eInt vx_3.2.L), .int .i64 vx_3.2.At]), (4004, .cells 46 [.lst false (ml eGRouter vx_2.1.Routers), .lst false (ml eGLink vx_2.1.Links)]), (4005, .cells 25 [.lst false (ml eGAdvert vx_5.1.Adverts)])] (by kernel_rfl) ?_
    exact Exists.intro (vx_5.1.Adverts, vx_3.2.L, vx_3.2.At) (And.intro hm (Weak.go [] [] (by kernel_rfl)))
  rintro j1 ⟨m_1, m_2, m_3⟩ hj1 hl1 hm
  rw [hK1] at hm
  refine A.seq ?_
  refine A.RS W0 [] [(3, hto (lnE eGRouter vx_2.1.Routers))] [(3, .ptr 900000071 0), (4, .ptr 4004 0), (5, .ptr 4005 0), (6, .int .i64 (j1 : Int)), (21, .bool (decide ((j1 : Int) < (vx_2.1.Routers.length:Int))))] [(900000071, .cells 71 [.lst false (ml eInt m_2), .int .i64 m_3]), (4004, .cells 46 [.lst false (ml eGRouter vx_2.1.Routers), .lst false (ml eGLink vx_2.1.Links)]), (4005, .cells 25 [.lst false (ml eGAdvert m_1)])] (by kernel_rfl) ?_
  refine A.cF rfl (ltF hl1) ?_
  refine A.exit ?_
  show acode _ _ _ _ _
  refine A.seq ?_
  refine A.RS W0 [] [(2, hto (lnE eGRouter vx_2.1.Routers))] [(3, .ptr 900000071 0), (4, .ptr 4004 0), (5, .ptr 4005 0), (49, .bool (decide ((vx_2.1.Routers.length:Int) = (0:Int))))] [(900000071, .cells 71 [.lst false (ml eInt m_2), .int .i64 m_3]), (4004, .cells 46 [.lst false (ml eGRouter vx_2.1.Routers), .lst false (ml eGLink vx_2.1.Links)]), (4005, .cells 25 [.lst false (ml eGAdvert m_1)])] (by kernel_rfl) ?_
  rcases cs_some hm with ⟨c2, hm⟩ | ⟨c2, hm⟩
  · skip
    refine A.cT rfl c2 ?_
    obtain ⟨vx_6, h6, hm⟩ := bnd_some hm
    refine A.RS W0 [] [(0, hro (m_law08_awake_ok h6) ck17)] [(2, .bool vx_6)] [] (by kernel_rfl) ?_
    refine A.ret ?_
    obtain rfl := some_inj hm
    exact A.fin W0 [] rfl (by kernel_rfl)
  refine A.cF rfl c2 ?_
  refine A.skip ?_
  show acode _ _ _ _ _
  obtain ⟨vx_7, h7, hm⟩ := bnd_some hm
  refine A.RS W0 [] [(2, hdc [] (m_mk_Tape_Router_ok h7) ck20)] [(4, .ptr 4004 0), (5, .ptr 4005 0), (9, .int .i64 vx_7.1)] [(4004, .cells 46 [.lst false (ml eGRouter vx_2.1.Routers), .lst false (ml eGLink vx_2.1.Links)]), (4005, .cells 25 [.lst false (ml eGAdvert m_1)])] (by kernel_rfl) ?_
  obtain ⟨vx_8, h8, hm⟩ := bnd_some hm
  refine A.RS W0 [] [(2, hro (m_ref05_Around_ok h8) ck21)] [(4, .ptr 4004 0), (5, .ptr 4005 0), (9, .int .i64 vx_7.1), (10, .lst false (ml eInt vx_8))] [(4004, .cells 46 [.lst false (ml eGRouter vx_2.1.Routers), .lst false (ml eGLink vx_2.1.Links)]), (4005, .cells 25 [.lst false (ml eGAdvert m_1)])] (by kernel_rfl) ?_
  refine A.RS W0 [] [] [(4, .ptr 4004 0), (5, .ptr 4005 0), (9, .int .i64 vx_7.1), (10, .lst false (ml eInt vx_8)), (11, .nils)] [(4004, .cells 46 [.lst false (ml eGRouter vx_2.1.Routers), .lst false (ml eGLink vx_2.1.Links)]), (4005, .cells 25 [.lst false (ml eGAdvert m_1)])] (by kernel_rfl) ?_
  refine A.seq ?_
  refine A.RS W0 [] [] [(4, .ptr 4004 0), (5, .ptr 4005 0), (9, .int .i64 vx_7.1), (10, .lst false (ml eInt vx_8)), (11, .nils), (12, .int .i64 (0:Int))] [(4004, .cells 46 [.lst false (ml eGRouter vx_2.1.Routers), .lst false (ml eGLink vx_2.1.Links)]), (4005, .cells 25 [.lst false (ml eGAdvert m_1)])] (by kernel_rfl) ?_
  refine A.block ?_
  refine A.bC 4 0 rfl rfl rfl fun hb2 => ?_
  obtain ⟨B2, K2, hB2, hK2, hm⟩ := forI_some hm
  refine A.lpI (l := vx_2.1.Routers) (j0 := 0) (B := B2) (K := K2) hm (fun j2 => fun out_1 => [(4, .ptr 4004 0), (5, .ptr 4005 0), (9, .int .i64 vx_7.1), (10, .lst false (ml eInt vx_8)), (11, .own 600004011), (12, .int .i64 (j2 : Int))]) (fun j2 => fun out_1 => [(4004, .cells 46 [.lst false (ml eGRouter vx_2.1.Routers), .lst false (ml eGLink vx_2.1.Links)]), (4005, .cells 25 [.lst false (ml eGAdvert m_1)]), (600004011, .slice 3 1 (ml eInt out_1) 0 false)]) ?_ ?_ ?_
  · exact Weak.go [.ad 11 600004011 3 1] [] (by kernel_rfl)
  · skip
    rintro j2 e2 Z2 out_1 hj2 hx2 hm
    rw [hB2] at hm
    refine A.seq ?_
    refine A.RS W0 [] [(3, hto (lnE eGRouter vx_2.1.Routers))] [(4, .ptr 4004 0), (5, .ptr 4005 0), (9, .int .i64 vx_7.1), (10, .lst false (ml eInt vx_8)), (11, .own 600004011), (12, .int .i64 (j2 : Int)), (61, .bool (decide ((j2 : Int) < (vx_2.1.Routers.length:Int))))] [(4004, .cells 46 [.lst false (ml eGRouter vx_2.1.Routers), .lst false (ml eGLink vx_2.1.Links)]), (4005, .cells 25 [.lst false (ml eGAdvert m_1)]), (600004011, .slice 3 1 (ml eInt out_1) 0 false)] (by kernel_rfl) ?_
    refine A.cT rfl (ltT hx2) ?_
    refine A.skip ?_
    show acode _ _ _ _ _
    obtain ⟨J1, hJ1, hm⟩ := jn_some hm
    refine A.J (J := J1) (r := r) (fun out_2 => [(4, .ptr 4004 0), (5, .ptr 4005 0), (9, .int .i64 vx_7.1), (10, .lst false (ml eInt vx_8)), (11, .own 600004011), (12, .int .i64 (j2 : Int))]) (fun out_2 => [(4004, .cells 46 [.lst false (ml eGRouter vx_2.1.Routers), .lst false (ml eGLink vx_2.1.Links)]), (4005, .cells 25 [.lst false (ml eGAdvert m_1)]), (600004011, .slice 3 1 (ml eInt out_2) 0 false)]) ?_ ?_
    · skip
      refine A.block ?_
      obtain ⟨vx_9, h9, hm⟩ := bnd_some hm
      refine A.RS W0 [] [(4, hix (ix eGRouter (elO_nat hx2))), (7, hro (m_ref04_Has_ok h9) ck22)] [(4, .ptr 4004 0), (5, .ptr 4005 0), (9, .int .i64 vx_7.1), (10, .lst false (ml eInt vx_8)), (11, .own 600004011), (12, .int .i64 (j2 : Int)), (72, .bool (!vx_9))] [(4004, .cells 46 [.lst false (ml eGRouter vx_2.1.Routers), .lst false (ml eGLink vx_2.1.Links)]), (4005, .cells 25 [.lst false (ml eGAdvert m_1)]), (600004011, .slice 3 1 (ml eInt out_1) 0 false)] (by kernel_rfl) ?_
      rcases cs_some hm with ⟨c3, hm⟩ | ⟨c3, hm⟩
      · skip
        refine A.cT rfl c3 ?_
        obtain ⟨l_1, h10, hm⟩ := bnd_some hm
        refine A.R W0 [] [(4, hix (ix eGRouter (elO_nat hx2))), (8, hap 4581 (ap eInt (bytes := 8) (by decide) h10))] [(4, .ptr 4004 0), (5, .ptr 4005 0), (9, .int .i64 vx_7.1), (10, .lst false (ml eInt vx_8)), (11, .own 4581), (12, .int .i64 (j2 : Int))] [(4004, .cells 46 [.lst false (ml eGRouter vx_2.1.Routers), .lst false (ml eGLink vx_2.1.Links)]), (4005, .cells 25 [.lst false (ml eGAdvert m_1)]), (4581, .slice 3 1 (ml eInt l_1) 0 false)] (by kernel_rfl) ?_
        exact Exists.intro l_1 (And.intro hm (Weak.go [.sw 4581 600004011] [] (by kernel_rfl)))
      refine A.cF rfl c3 ?_
      refine A.skip ?_
      exact Exists.intro out_1 (And.intro hm (Weak.go [] [] (by kernel_rfl)))
    rintro out_2 hm
    rw [hJ1] at hm
    refine A.R W0 [] [(1, hto (inc hx2 hb2))] [(4, .ptr 4004 0), (5, .ptr 4005 0), (9, .int .i64 vx_7.1), (10, .lst false (ml eInt vx_8)), (11, .own 600004011), (12, .int .i64 ((j2 + 1 : Nat) : Int))] [(4004, .cells 46 [.lst false (ml eGRouter vx_2.1.Routers), .lst false (ml eGLink vx_2.1.Links)]), (4005, .cells 25 [.lst false (ml eGAdvert m_1)]), (600004011, .slice 3 1 (ml eInt out_2) 0 false)] (by kernel_rfl) ?_
    exact Exists.intro out_2 (And.intro hm (Weak.go [] [] (by kernel_rfl)))
  rintro j2 out_1 hj2 hl2 hm
  rw [hK2] at hm
  refine A.seq ?_
  refine A.RS W0 [] [(3, hto (lnE eGRouter vx_2.1.Routers))] [(4, .ptr 4004 0), (5, .ptr 4005 0), (9, .int .i64 vx_7.1), (10, .lst false (ml eInt vx_8)), (11, .own 600004011), (12, .int .i64 (j2 : Int)), (61, .bool (decide ((j2 : Int) < (vx_2.1.Routers.length:Int))))] [(4004, .cells 46 [.lst false (ml eGRouter vx_2.1.Routers), .lst false (ml eGLink vx_2.1.Links)]), (4005, .cells 25 [.lst false (ml eGAdvert m_1)]), (600004011, .slice 3 1 (ml eInt out_1) 0 false)] (by kernel_rfl) ?_
  refine A.cF rfl (ltF hl2) ?_
  refine A.exit ?_
  show acode _ _ _ _ _
  obtain ⟨vx_10, h11, hm⟩ := bnd_some hm
  obtain ⟨vx_11, h12, hm⟩ := bnd_some hm
  obtain ⟨vx_12, h13, hm⟩ := bnd_some hm
  rcases cs_some hm with ⟨c4, hm⟩ | ⟨c4, hm⟩
  · skip
    obtain ⟨vx_13, h14, hm⟩ := bnd_some hm
    refine A.RS W0 [.fz [600004011]] [(2, hro (m_database_View_ok h11) ck24), (6, hro (m_ref05_Without_ok h12) ck25), (7, hro (m_ref05_Same_ok h13) ck23), (8, hto (bE c4)), (9, hro (m_law08_awake_ok h14) ck17)] [(2, .bool vx_13)] [] (by kernel_rfl) ?_
    refine A.ret ?_
    obtain rfl := some_inj hm
    exact A.fin W0 [] rfl (by kernel_rfl)
  refine A.RS W0 [.fz [600004011]] [(2, hro (m_database_View_ok h11) ck24), (6, hro (m_ref05_Without_ok h12) ck25), (7, hro (m_ref05_Same_ok h13) ck23), (8, hto (bE c4))] [(2, .bool false)] [] (by kernel_rfl) ?_
  refine A.ret ?_
  obtain rfl := some_inj hm
  exact A.fin W0 [] rfl (by kernel_rfl)
end Go.Proofs.YtmcjffllahcclaaGreat
