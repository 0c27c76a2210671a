/- The walks of functions of the program. No condition but those that stand in each. -/
import Derived.Test.YtmcjffllahcclaaGreatDA
import Derived.Test.YtmcjffllahcclaaGreatV2
import Derived.Test.YtmcjffllahcclaaGreatV7
namespace Go.Proofs.YtmcjffllahcclaaGreat
open Go
set_option maxRecDepth 100000
set_option linter.all false
theorem m_ref07_Of_ok {t : GTopology} {router : Int} {seq : Int} {claims : List GClaim} {r : GAdvert × Int} (hm : m_ref07_Of t router seq claims = some r) : RO Tryz.prog 19 [] [.agg [.lst false (ml eGRouter t.Routers), .lst false (ml eGLink t.Links)], .int .i64 router, .int .i64 seq, .lst false (ml eGClaim claims)] (.tup [.agg [.int .i64 r.1.Router, .int .i64 r.1.Seq, .bool r.1.Capable, .lst false (ml eGReach r.1.Links), .lst false (ml eGClaim r.1.Claims)], .int .i64 r.2]) := by
  refine enterA Tryz.func19 rfl rfl ?_
  unfold m_ref07_Of at hm
  refine A.RS W0 [] [(0, .al 19004), (1, .al 19008)] [(1, .int .i64 router), (2, .int .i64 seq), (3, .lst false (ml eGClaim claims)), (4, .ptr 19004 0), (8, .ptr 19008 0)] [(19004, .cells 46 [.lst false (ml eGRouter t.Routers), .lst false (ml eGLink t.Links)]), (19008, .cells 29 [.int .i64 (0:Int), .int .i64 (0:Int), .bool false, .nils, .nils])] (by kernel_rfl) ?_
  refine A.seq ?_
  obtain ⟨vx_1, h1, hm⟩ := bnd_some hm
  refine A.RS W0 [] [(1, hro (m_ref05_Check_ok h1) ck45)] [(1, .int .i64 router), (2, .int .i64 seq), (3, .lst false (ml eGClaim claims)), (4, .ptr 19004 0), (8, .ptr 19008 0), (20, .bool (!decide (vx_1 = (0:Int))))] [(19004, .cells 46 [.lst false (ml eGRouter t.Routers), .lst false (ml eGLink t.Links)]), (19008, .cells 29 [.int .i64 (0:Int), .int .i64 (0:Int), .bool false, .nils, .nils])] (by kernel_rfl) ?_
  rcases cs_some hm with ⟨c1, hm⟩ | ⟨c1, hm⟩
  · skip
    refine A.cT rfl c1 ?_
    refine A.RS W0 [] [] [(8, .ptr 19008 0), (9, .int .i64 (1:Int))] [(19008, .cells 29 [.int .i64 (0:Int), .int .i64 (0:Int), .bool false, .nils, .nils])] (by kernel_rfl) ?_
    refine A.ret ?_
    obtain rfl := some_inj hm
    exact A.fin W0 [] rfl (by kernel_rfl)
  refine A.cF rfl c1 ?_
  refine A.skip ?_
  show acode _ _ _ _ _
  refine A.seq ?_
  obtain ⟨vx_2, h2, hm⟩ := bnd_some hm
  refine A.RS W0 [] [(2, hro (m_ref05_Has_ok h2) ck46)] [(1, .int .i64 router), (2, .int .i64 seq), (3, .lst false (ml eGClaim claims)), (4, .ptr 19004 0), (8, .ptr 19008 0), (25, .bool (!vx_2))] [(19004, .cells 46 [.lst false (ml eGRouter t.Routers), .lst false (ml eGLink t.Links)]), (19008, .cells 29 [.int .i64 (0:Int), .int .i64 (0:Int), .bool false, .nils, .nils])] (by kernel_rfl) ?_
  rcases cs_some hm with ⟨c2, hm⟩ | ⟨c2, hm⟩
  · skip
    refine A.cT rfl c2 ?_
    refine A.RS W0 [] [] [(8, .ptr 19008 0), (9, .int .i64 (4:Int))] [(19008, .cells 29 [.int .i64 (0:Int), .int .i64 (0:Int), .bool false, .nils, .nils])] (by kernel_rfl) ?_
    refine A.ret ?_
    obtain rfl := some_inj hm
    exact A.fin W0 [] rfl (by kernel_rfl)
  refine A.cF rfl c2 ?_
  refine A.skip ?_
  show acode _ _ _ _ _
  obtain ⟨vx_3, h3, hm⟩ := bnd_some hm
  refine A.RS W0 [] [(4, hro (m_ref05_Capable_ok h3) ck47), (7, .al 19010)] [(1, .int .i64 router), (4, .ptr 19004 0), (8, .ptr 19008 0), (10, .ptr 19010 0)] [(19004, .cells 46 [.lst false (ml eGRouter t.Routers), .lst false (ml eGLink t.Links)]), (19008, .cells 29 [.int .i64 (0:Int), .int .i64 (0:Int), .bool false, .nils, .nils]), (19010, .cells 29 [.int .i64 router, .int .i64 seq, .bool vx_3, .nils, .lst false (ml eGClaim claims)])] (by kernel_rfl) ?_
  obtain ⟨vx_4, h4, hm⟩ := bnd_some hm
  refine A.RS W0 [] [(2, hro (m_ref05_Near_ok h4) ck48)] [(1, .int .i64 router), (4, .ptr 19004 0), (8, .ptr 19008 0), (10, .ptr 19010 0), (11, .lst false (ml eInt vx_4))] [(19004, .cells 46 [.lst false (ml eGRouter t.Routers), .lst false (ml eGLink t.Links)]), (19008, .cells 29 [.int .i64 (0:Int), .int .i64 (0:Int), .bool false, .nils, .nils]), (19010, .cells 29 [.int .i64 router, .int .i64 seq, .bool vx_3, .nils, .lst false (ml eGClaim claims)])] (by kernel_rfl) ?_
  refine A.seq ?_
  refine A.RS W0 [] [] [(1, .int .i64 router), (4, .ptr 19004 0), (8, .ptr 19008 0), (10, .ptr 19010 0), (11, .lst false (ml eInt vx_4)), (12, .int .i64 (0:Int))] [(19004, .cells 46 [.lst false (ml eGRouter t.Routers), .lst false (ml eGLink t.Links)]), (19008, .cells 29 [.int .i64 (0:Int), .int .i64 (0:Int), .bool false, .nils, .nils]), (19010, .cells 29 [.int .i64 router, .int .i64 seq, .bool vx_3, .nils, .lst false (ml eGClaim claims)])] (by kernel_rfl) ?_
  refine A.block ?_
  refine A.bS 11 rfl fun hb1 => ?_
  obtain ⟨B1, K1, hB1, hK1, hm⟩ := forI_some hm
  refine A.lpI (l := vx_4) (j0 := 0) (B := B1) (K := K1) hm (fun j1 => fun m_1 => [(1, .int .i64 router), (4, .ptr 19004 0), (8, .ptr 19008 0), (10, .ptr 19010 0), (11, .lst false (ml eInt vx_4)), (12, .int .i64 (j1 : Int))]) (fun j1 => fun m_1 => [(19004, .cells 46 [.lst false (ml eGRouter t.Routers), .lst false (ml eGLink t.Links)]), (19008, .cells 29 [.int .i64 (0:Int), .int .i64 (0:Int), .bool false, .nils, .nils]), (19010, .cells 29 [.int .i64 router, .int .i64 seq, .bool vx_3, .own 701901003, .lst false (ml eGClaim claims)]), (701901003, .slice 74 3 (ml eGReach m_1) 0 false)]) ?_ ?_ ?_
  · exact Weak.go [.ac 19010 701901003 74 3 3] [] (by kernel_rfl)
  · skip
    rintro j1 e1 Z1 m_1 hj1 hx1 hm
    rw [hB1] at hm
    refine A.seq ?_
    refine A.RS W0 [] [(2, hto (lnE eInt vx_4))] [(1, .int .i64 router), (4, .ptr 19004 0), (8, .ptr 19008 0), (10, .ptr 19010 0), (11, .lst false (ml eInt vx_4)), (12, .int .i64 (j1 : Int)), (40, .bool (decide ((j1 : Int) < (vx_4.length:Int))))] [(19004, .cells 46 [.lst false (ml eGRouter t.Routers), .lst false (ml eGLink t.Links)]), (19008, .cells 29 [.int .i64 (0:Int), .int .i64 (0:Int), .bool false, .nils, .nils]), (19010, .cells 29 [.int .i64 router, .int .i64 seq, .bool vx_3, .own 701901003, .lst false (ml eGClaim claims)]), (701901003, .slice 74 3 (ml eGReach m_1) 0 false)] (by kernel_rfl) ?_
    refine A.cT rfl (ltT hx1) ?_
    refine A.skip ?_
    show acode _ _ _ _ _
    refine A.seq ?_
    refine A.block ?_
    obtain ⟨vx_5, h5, hm⟩ := bnd_some hm
    refine A.RS W0 [] [(4, hix (ix eInt (elO_nat hx1))), (6, hro (m_ref05_Price_ok h5) ck49)] [(1, .int .i64 router), (4, .ptr 19004 0), (8, .ptr 19008 0), (10, .ptr 19010 0), (11, .lst false (ml eInt vx_4)), (12, .int .i64 (j1 : Int)), (13, .int .i64 vx_5.1)] [(19004, .cells 46 [.lst false (ml eGRouter t.Routers), .lst false (ml eGLink t.Links)]), (19008, .cells 29 [.int .i64 (0:Int), .int .i64 (0:Int), .bool false, .nils, .nils]), (19010, .cells 29 [.int .i64 router, .int .i64 seq, .bool vx_3, .own 701901003, .lst false (ml eGClaim claims)]), (701901003, .slice 74 3 (ml eGReach m_1) 0 false)] (by kernel_rfl) ?_
    refine A.RS W0 [] [(2, hix (ix eInt (elO_nat hx1))), (6, .al 19015)] [(1, .int .i64 router), (4, .ptr 19004 0), (8, .ptr 19008 0), (10, .ptr 19010 0), (11, .lst false (ml eInt vx_4)), (12, .int .i64 (j1 : Int)), (15, .ptr 19015 0)] [(19004, .cells 46 [.lst false (ml eGRouter t.Routers), .lst false (ml eGLink t.Links)]), (19008, .cells 29 [.int .i64 (0:Int), .int .i64 (0:Int), .bool false, .nils, .nils]), (19010, .cells 29 [.int .i64 router, .int .i64 seq, .bool vx_3, .own 701901003, .lst false (ml eGClaim claims)]), (701901003, .slice 74 3 (ml eGReach m_1) 0 false), (19015, .cells 74 [.int .i64 e1, .int .i64 vx_5.1, .int .i64 (0:Int)])] (by kernel_rfl) ?_
    refine A.seq ?_
    refine A.RS W0 [] [] [(1, .int .i64 router), (4, .ptr 19004 0), (8, .ptr 19008 0), (10, .ptr 19010 0), (11, .lst false (ml eInt vx_4)), (12, .int .i64 (j1 : Int)), (15, .ptr 19015 0), (16, .int .i64 (0:Int))] [(19004, .cells 46 [.lst false (ml eGRouter t.Routers), .lst false (ml eGLink t.Links)]), (19008, .cells 29 [.int .i64 (0:Int), .int .i64 (0:Int), .bool false, .nils, .nils]), (19010, .cells 29 [.int .i64 router, .int .i64 seq, .bool vx_3, .own 701901003, .lst false (ml eGClaim claims)]), (701901003, .slice 74 3 (ml eGReach m_1) 0 false), (19015, .cells 74 [.int .i64 e1, .int .i64 vx_5.1, .int .i64 (0:Int)])] (by kernel_rfl) ?_
    refine A.block ?_
    refine A.bC 4 1 rfl rfl rfl fun hb2 => ?_
    obtain ⟨B2, K2, hB2, hK2, hm⟩ := forI_some hm
    refine A.lpI (l := t.Links) (j0 := 0) (B := B2) (K := K2) hm (fun j2 => fun m_2 => [(1, .int .i64 router), (4, .ptr 19004 0), (8, .ptr 19008 0), (10, .ptr 19010 0), (11, .lst false (ml eInt vx_4)), (12, .int .i64 (j1 : Int)), (15, .ptr 19015 0), (16, .int .i64 (j2 : Int))]) (fun j2 => fun m_2 => [(19004, .cells 46 [.lst false (ml eGRouter t.Routers), .lst false (ml eGLink t.Links)]), (19008, .cells 29 [.int .i64 (0:Int), .int .i64 (0:Int), .bool false, .nils, .nils]), (19010, .cells 29 [.int .i64 router, .int .i64 seq, .bool vx_3, .own 701901003, .lst false (ml eGClaim claims)]), (701901003, .slice 74 3 (ml eGReach m_1) 0 false), (19015, .cells 74 [.int .i64 e1, .int .i64 vx_5.1, .int .i64 m_2])]) ?_ ?_ ?_
    · exact Weak.go [] [] (by kernel_rfl)
    · skip
      rintro j2 e2 Z2 m_2 hj2 hx2 hm
      rw [hB2] at hm
      refine A.seq ?_
      refine A.RS W0 [] [(3, hto (lnE eGLink t.Links))] [(1, .int .i64 router), (4, .ptr 19004 0), (8, .ptr 19008 0), (10, .ptr 19010 0), (11, .lst false (ml eInt vx_4)), (12, .int .i64 (j1 : Int)), (15, .ptr 19015 0), (16, .int .i64 (j2 : Int)), (63, .bool (decide ((j2 : Int) < (t.Links.length:Int))))] [(19004, .cells 46 [.lst false (ml eGRouter t.Routers), .lst false (ml eGLink t.Links)]), (19008, .cells 29 [.int .i64 (0:Int), .int .i64 (0:Int), .bool false, .nils, .nils]), (19010, .cells 29 [.int .i64 router, .int .i64 seq, .bool vx_3, .own 701901003, .lst false (ml eGClaim claims)]), (701901003, .slice 74 3 (ml eGReach m_1) 0 false), (19015, .cells 74 [.int .i64 e1, .int .i64 vx_5.1, .int .i64 m_2])] (by kernel_rfl) ?_
      refine A.cT rfl (ltT hx2) ?_
      refine A.skip ?_
      show acode _ _ _ _ _
      obtain ⟨J1, hJ1, hm⟩ := jn_some hm
      refine A.J (J := J1) (r := r) (fun m_3 => [(1, .int .i64 router), (4, .ptr 19004 0), (8, .ptr 19008 0), (10, .ptr 19010 0), (11, .lst false (ml eInt vx_4)), (12, .int .i64 (j1 : Int)), (15, .ptr 19015 0), (16, .int .i64 (j2 : Int))]) (fun m_3 => [(19004, .cells 46 [.lst false (ml eGRouter t.Routers), .lst false (ml eGLink t.Links)]), (19008, .cells 29 [.int .i64 (0:Int), .int .i64 (0:Int), .bool false, .nils, .nils]), (19010, .cells 29 [.int .i64 router, .int .i64 seq, .bool vx_3, .own 701901003, .lst false (ml eGClaim claims)]), (701901003, .slice 74 3 (ml eGReach m_1) 0 false), (19015, .cells 74 [.int .i64 e1, .int .i64 vx_5.1, .int .i64 m_3])]) ?_ ?_
      · skip
        refine A.block ?_
        refine A.RS W0 [] [(3, hix (ix eGLink (elO_nat hx2))), (5, .al 19017)] [(1, .int .i64 router), (4, .ptr 19004 0), (8, .ptr 19008 0), (10, .ptr 19010 0), (11, .lst false (ml eInt vx_4)), (12, .int .i64 (j1 : Int)), (15, .ptr 19015 0), (16, .int .i64 (j2 : Int)), (17, .ptr 19017 0)] [(19004, .cells 46 [.lst false (ml eGRouter t.Routers), .lst false (ml eGLink t.Links)]), (19008, .cells 29 [.int .i64 (0:Int), .int .i64 (0:Int), .bool false, .nils, .nils]), (19010, .cells 29 [.int .i64 router, .int .i64 seq, .bool vx_3, .own 701901003, .lst false (ml eGClaim claims)]), (701901003, .slice 74 3 (ml eGReach m_1) 0 false), (19015, .cells 74 [.int .i64 e1, .int .i64 vx_5.1, .int .i64 m_2]), (19017, .cells 84 [.int .i64 e2.A, .int .i64 e2.B, .int .i64 e2.CostA, .int .i64 e2.CostB, .int .i64 e2.Capacity])] (by kernel_rfl) ?_
        refine A.mid [(1, .int .i64 router), (4, .ptr 19004 0), (8, .ptr 19008 0), (10, .ptr 19010 0), (11, .lst false (ml eInt vx_4)), (12, .int .i64 (j1 : Int)), (15, .ptr 19015 0), (16, .int .i64 (j2 : Int)), (17, .ptr 19017 0), (90, .bool ((decide (e2.A = (if e1 < router then e1 else router))) && (decide (e2.B = (if e1 > router then e1 else router)))))] [(19004, .cells 46 [.lst false (ml eGRouter t.Routers), .lst false (ml eGLink t.Links)]), (19008, .cells 29 [.int .i64 (0:Int), .int .i64 (0:Int), .bool false, .nils, .nils]), (19010, .cells 29 [.int .i64 router, .int .i64 seq, .bool vx_3, .own 701901003, .lst false (ml eGClaim claims)]), (701901003, .slice 74 3 (ml eGReach m_1) 0 false), (19015, .cells 74 [.int .i64 e1, .int .i64 vx_5.1, .int .i64 m_2]), (19017, .cells 84 [.int .i64 e2.A, .int .i64 e2.B, .int .i64 e2.CostA, .int .i64 e2.CostB, .int .i64 e2.Capacity])] (fun hk => ?_) ?_
        · skip
          rcases tf (decide (e2.A = (if e1 < router then e1 else router))) with c3 | c3
          · skip
            exact A.RS W0 [] [(5, hix (ix eInt (elO_nat hx1))), (9, hto (bE c3)), (15, hix (ix eInt (elO_nat hx1))), (19, hto (andT (q := decide (e2.B = (if e1 > router then e1 else router))) c3))] _ _ (by kernel_rfl) hk
          exact A.RS W0 [] [(5, hix (ix eInt (elO_nat hx1))), (9, hto (bE c3)), (19, hto (andF (q := decide (e2.B = (if e1 > router then e1 else router))) c3))] _ _ (by kernel_rfl) hk
        rcases cs_some hm with ⟨c4, hm⟩ | ⟨c4, hm⟩
        · skip
          refine A.cT rfl c4 ?_
          refine A.R W0 [] [] [(1, .int .i64 router), (4, .ptr 19004 0), (8, .ptr 19008 0), (10, .ptr 19010 0), (11, .lst false (ml eInt vx_4)), (12, .int .i64 (j1 : Int)), (15, .ptr 19015 0), (16, .int .i64 (j2 : Int))] [(19004, .cells 46 [.lst false (ml eGRouter t.Routers), .lst false (ml eGLink t.Links)]), (19008, .cells 29 [.int .i64 (0:Int), .int .i64 (0:Int), .bool false, .nils, .nils]), (19010, .cells 29 [.int .i64 router, .int .i64 seq, .bool vx_3, .own 701901003, .lst false (ml eGClaim claims)]), (701901003, .slice 74 3 (ml eGReach m_1) 0 false), (19015, .cells 74 [.int .i64 e1, .int .i64 vx_5.1, .int .i64 e2.Capacity])] (by kernel_rfl) ?_
          exact Exists.intro e2.Capacity (And.intro hm (Weak.go [] [] (by kernel_rfl)))
        refine A.cF rfl c4 ?_
        refine A.skip ?_
        exact Exists.intro m_2 (And.intro hm (Weak.go [] [] (by kernel_rfl)))
      rintro m_3 hm
      rw [hJ1] at hm
      refine A.R W0 [] [(1, hto (inc hx2 hb2))] [(1, .int .i64 router), (4, .ptr 19004 0), (8, .ptr 19008 0), (10, .ptr 19010 0), (11, .lst false (ml eInt vx_4)), (12, .int .i64 (j1 : Int)), (15, .ptr 19015 0), (16, .int .i64 ((j2 + 1 : Nat) : Int))] [(19004, .cells 46 [.lst false (ml eGRouter t.Routers), .lst false (ml eGLink t.Links)]), (19008, .cells 29 [.int .i64 (0:Int), .int .i64 (0:Int), .bool false, .nils, .nils]), (19010, .cells 29 [.int .i64 router, .int .i64 seq, .bool vx_3, .own 701901003, .lst false (ml eGClaim claims)]), (701901003, .slice 74 3 (ml eGReach m_1) 0 false), (19015, .cells 74 [.int .i64 e1, .int .i64 vx_5.1, .int .i64 m_3])] (by kernel_rfl) ?_
      exact Exists.intro m_3 (And.intro hm (Weak.go [] [] (by kernel_rfl)))
    rintro j2 m_2 hj2 hl2 hm
    rw [hK2] at hm
    refine A.seq ?_
    refine A.RS W0 [] [(3, hto (lnE eGLink t.Links))] [(1, .int .i64 router), (4, .ptr 19004 0), (8, .ptr 19008 0), (10, .ptr 19010 0), (11, .lst false (ml eInt vx_4)), (12, .int .i64 (j1 : Int)), (15, .ptr 19015 0), (16, .int .i64 (j2 : Int)), (63, .bool (decide ((j2 : Int) < (t.Links.length:Int))))] [(19004, .cells 46 [.lst false (ml eGRouter t.Routers), .lst false (ml eGLink t.Links)]), (19008, .cells 29 [.int .i64 (0:Int), .int .i64 (0:Int), .bool false, .nils, .nils]), (19010, .cells 29 [.int .i64 router, .int .i64 seq, .bool vx_3, .own 701901003, .lst false (ml eGClaim claims)]), (701901003, .slice 74 3 (ml eGReach m_1) 0 false), (19015, .cells 74 [.int .i64 e1, .int .i64 vx_5.1, .int .i64 m_2])] (by kernel_rfl) ?_
    refine A.cF rfl (ltF hl2) ?_
    refine A.exit ?_
    show acode _ _ _ _ _
    obtain ⟨l_1, h6, hm⟩ := bnd_some hm
    refine A.R W0 [] [(4, hap 19598 (ap eGReach (bytes := 24) (by decide) h6))] [(1, .int .i64 router), (4, .ptr 19004 0), (8, .ptr 19008 0), (10, .ptr 19010 0), (11, .lst false (ml eInt vx_4)), (12, .int .i64 (j1 : Int))] [(19004, .cells 46 [.lst false (ml eGRouter t.Routers), .lst false (ml eGLink t.Links)]), (19008, .cells 29 [.int .i64 (0:Int), .int .i64 (0:Int), .bool false, .nils, .nils]), (19010, .cells 29 [.int .i64 router, .int .i64 seq, .bool vx_3, .own 19598, .lst false (ml eGClaim claims)]), (19598, .slice 74 3 (ml eGReach l_1) 0 false)] (by kernel_rfl) ?_
    show acode _ _ _ _ _
    refine A.R W0 [] [(1, hto (inc hx1 hb1))] [(1, .int .i64 router), (4, .ptr 19004 0), (8, .ptr 19008 0), (10, .ptr 19010 0), (11, .lst false (ml eInt vx_4)), (12, .int .i64 ((j1 + 1 : Nat) : Int))] [(19004, .cells 46 [.lst false (ml eGRouter t.Routers), .lst false (ml eGLink t.Links)]), (19008, .cells 29 [.int .i64 (0:Int), .int .i64 (0:Int), .bool false, .nils, .nils]), (19010, .cells 29 [.int .i64 router, .int .i64 seq, .bool vx_3, .own 19598, .lst false (ml eGClaim claims)]), (19598, .slice 74 3 (ml eGReach l_1) 0 false)] (by kernel_rfl) ?_
    exact Exists.intro l_1 (And.intro hm (Weak.go [.sw 19598 701901003] [] (by kernel_rfl)))
  rintro j1 m_1 hj1 hl1 hm
  rw [hK1] at hm
  refine A.seq ?_
  refine A.RS W0 [] [(2, hto (lnE eInt vx_4))] [(1, .int .i64 router), (4, .ptr 19004 0), (8, .ptr 19008 0), (10, .ptr 19010 0), (11, .lst false (ml eInt vx_4)), (12, .int .i64 (j1 : Int)), (40, .bool (decide ((j1 : Int) < (vx_4.length:Int))))] [(19004, .cells 46 [.lst false (ml eGRouter t.Routers), .lst false (ml eGLink t.Links)]), (19008, .cells 29 [.int .i64 (0:Int), .int .i64 (0:Int), .bool false, .nils, .nils]), (19010, .cells 29 [.int .i64 router, .int .i64 seq, .bool vx_3, .own 701901003, .lst false (ml eGClaim claims)]), (701901003, .slice 74 3 (ml eGReach m_1) 0 false)] (by kernel_rfl) ?_
  refine A.cF rfl (ltF hl1) ?_
  refine A.exit ?_
  show acode _ _ _ _ _
  refine A.seq ?_
  obtain ⟨vx_6, h7, hm⟩ := bnd_some hm
  refine A.RS W0 [] [(1, hle [701901003] (m_ref07_Valid_ok h7) ck40)] [(8, .ptr 19008 0), (10, .ptr 19010 0), (102, .bool (!vx_6))] [(19008, .cells 29 [.int .i64 (0:Int), .int .i64 (0:Int), .bool false, .nils, .nils]), (19010, .cells 29 [.int .i64 router, .int .i64 seq, .bool vx_3, .own 701901003, .lst false (ml eGClaim claims)]), (701901003, .slice 74 3 (ml eGReach m_1) 0 false)] (by kernel_rfl) ?_
  rcases cs_some hm with ⟨c5, hm⟩ | ⟨c5, hm⟩
  · skip
    refine A.cT rfl c5 ?_
    refine A.RS W0 [] [] [(8, .ptr 19008 0), (9, .int .i64 (2:Int))] [(19008, .cells 29 [.int .i64 (0:Int), .int .i64 (0:Int), .bool false, .nils, .nils])] (by kernel_rfl) ?_
    refine A.ret ?_
    obtain rfl := some_inj hm
    exact A.fin W0 [] rfl (by kernel_rfl)
  refine A.cF rfl c5 ?_
  refine A.skip ?_
  show acode _ _ _ _ _
  refine A.RS W0 [] [] [(8, .ptr 19008 0), (9, .int .i64 (0:Int))] [(19008, .cells 29 [.int .i64 router, .int .i64 seq, .bool vx_3, .own 701901003, .lst false (ml eGClaim claims)]), (701901003, .slice 74 3 (ml eGReach m_1) 0 false)] (by kernel_rfl) ?_
  refine A.ret ?_
  obtain rfl := some_inj hm
  exact A.fin W0 [.fz [701901003]] rfl (by kernel_rfl)
end Go.Proofs.YtmcjffllahcclaaGreat
