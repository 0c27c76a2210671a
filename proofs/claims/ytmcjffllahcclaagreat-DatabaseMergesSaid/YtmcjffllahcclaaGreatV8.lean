/- The walks of functions of the program. No condition but those that stand in each. -/
import Derived.Test.YtmcjffllahcclaaGreatDA
import Derived.Test.YtmcjffllahcclaaGreatV2
import Derived.Test.YtmcjffllahcclaaGreatV7
namespace Go.Proofs.YtmcjffllahcclaaGreat
open Go
set_option maxRecDepth 100000
set_option linter.all false
theorem m_ref08_Check_ok {d : GDatabase} {r : Int} (hm : m_ref08_Check d = some r) : RO Tryz.prog 39 [] [.agg [.lst false (ml eGAdvert d.Adverts)]] (.int .i64 r) := by
  refine enterA Tryz.func39 rfl rfl ?_
  unfold m_ref08_Check at hm
  refine A.RS W0 [] [(0, .al 39001)] [(1, .ptr 39001 0)] [(39001, .cells 25 [.lst false (ml eGAdvert d.Adverts)])] (by kernel_rfl) ?_
  refine A.seq ?_
  refine A.RS W0 [] [(2, hto (lnE eGAdvert d.Adverts))] [(1, .ptr 39001 0), (8, .bool (decide ((99:Int) < (d.Adverts.length:Int))))] [(39001, .cells 25 [.lst false (ml eGAdvert d.Adverts)])] (by kernel_rfl) ?_
  rcases cs_some hm with ⟨c1, hm⟩ | ⟨c1, hm⟩
  · skip
    refine A.cT rfl c1 ?_
    refine A.RS W0 [] [] [(2, .int .i64 (3:Int))] [] (by kernel_rfl) ?_
    refine A.ret ?_
    obtain rfl := some_inj hm
    exact A.fin W0 [] rfl (by kernel_rfl)
  refine A.cF rfl c1 ?_
  refine A.skip ?_
  show acode _ _ _ _ _
  refine A.seq ?_
  refine A.RS W0 [] [] [(1, .ptr 39001 0), (3, .int .i64 (0:Int))] [(39001, .cells 25 [.lst false (ml eGAdvert d.Adverts)])] (by kernel_rfl) ?_
  refine A.block ?_
  refine A.bC 1 0 rfl rfl rfl fun hb1 => ?_
  obtain ⟨B1, K1, hB1, hK1, hm⟩ := forI_some hm
  refine A.lpI (l := d.Adverts) (j0 := 0) (B := B1) (K := K1) hm (fun j1 => fun sg => match sg with | () => [(1, .ptr 39001 0), (3, .int .i64 (j1 : Int))]) (fun j1 => fun sg => match sg with | () => [(39001, .cells 25 [.lst false (ml eGAdvert d.Adverts)])]) ?_ ?_ ?_
  · exact Weak.go [] [] (by kernel_rfl)
  · skip
    rintro j1 e1 Z1 ⟨⟩ hj1 hx1 hm
    rw [hB1] at hm
    refine A.seq ?_
    refine A.RS W0 [] [(3, hto (lnE eGAdvert d.Adverts))] [(1, .ptr 39001 0), (3, .int .i64 (j1 : Int)), (13, .bool (decide ((j1 : Int) < (d.Adverts.length:Int))))] [(39001, .cells 25 [.lst false (ml eGAdvert d.Adverts)])] (by kernel_rfl) ?_
    refine A.cT rfl (ltT hx1) ?_
    refine A.skip ?_
    show acode _ _ _ _ _
    refine A.seq ?_
    refine A.block ?_
    obtain ⟨vx_1, h1, hm⟩ := bnd_some hm
    refine A.RS W0 [] [(3, hix (ix eGAdvert (elO_nat hx1))), (5, hro (m_ref07_Valid_ok h1) ck40)] [(1, .ptr 39001 0), (3, .int .i64 (j1 : Int)), (22, .bool (!vx_1))] [(39001, .cells 25 [.lst false (ml eGAdvert d.Adverts)])] (by kernel_rfl) ?_
    rcases cs_some hm with ⟨c2, hm⟩ | ⟨c2, hm⟩
    · skip
      refine A.cT rfl c2 ?_
      refine A.RS W0 [] [] [(2, .int .i64 (1:Int))] [] (by kernel_rfl) ?_
      refine A.ret ?_
      obtain rfl := some_inj hm
      exact A.fin W0 [] rfl (by kernel_rfl)
    refine A.cF rfl c2 ?_
    refine A.skip ?_
    show acode _ _ _ _ _
    refine A.R W0 [] [(1, hto (inc hx1 hb1))] [(1, .ptr 39001 0), (3, .int .i64 ((j1 + 1 : Nat) : Int))] [(39001, .cells 25 [.lst false (ml eGAdvert d.Adverts)])] (by kernel_rfl) ?_
    exact Exists.intro () (And.intro hm (Weak.go [] [] (by kernel_rfl)))
  rintro j1 ⟨⟩ hj1 hl1 hm
  rw [hK1] at hm
  refine A.seq ?_
  refine A.RS W0 [] [(3, hto (lnE eGAdvert d.Adverts))] [(1, .ptr 39001 0), (3, .int .i64 (j1 : Int)), (13, .bool (decide ((j1 : Int) < (d.Adverts.length:Int))))] [(39001, .cells 25 [.lst false (ml eGAdvert d.Adverts)])] (by kernel_rfl) ?_
  refine A.cF rfl (ltF hl1) ?_
  refine A.exit ?_
  show acode _ _ _ _ _
  refine A.seq ?_
  refine A.RS W0 [] [] [(1, .ptr 39001 0), (4, .int .i64 (1:Int))] [(39001, .cells 25 [.lst false (ml eGAdvert d.Adverts)])] (by kernel_rfl) ?_
  refine A.block ?_
  refine A.bC 1 0 rfl rfl rfl fun hb2 => ?_
  obtain ⟨B2, K2, hB2, hK2, hm⟩ := forI_some hm
  refine A.lpI (l := d.Adverts) (j0 := 1) (B := B2) (K := K2) hm (fun j2 => fun sg => match sg with | () => [(1, .ptr 39001 0), (4, .int .i64 (j2 : Int))]) (fun j2 => fun sg => match sg with | () => [(39001, .cells 25 [.lst false (ml eGAdvert d.Adverts)])]) ?_ ?_ ?_
  · exact Weak.go [] [] (by kernel_rfl)
  · skip
    rintro j2 e2 Z2 ⟨⟩ hj2 hx2 hm
    rw [hB2] at hm
    refine A.seq ?_
    refine A.RS W0 [] [(3, hto (lnE eGAdvert d.Adverts))] [(1, .ptr 39001 0), (4, .int .i64 (j2 : Int)), (27, .bool (decide ((j2 : Int) < (d.Adverts.length:Int))))] [(39001, .cells 25 [.lst false (ml eGAdvert d.Adverts)])] (by kernel_rfl) ?_
    refine A.cT rfl (ltT hx2) ?_
    refine A.skip ?_
    show acode _ _ _ _ _
    refine A.seq ?_
    refine A.block ?_
    obtain ⟨e_1, h2, hm⟩ := bnd_some hm
    refine A.RS W0 [] [(4, hix (ix eGAdvert h2)), (10, hix (ix eGAdvert (elO_nat hx2)))] [(1, .ptr 39001 0), (4, .int .i64 (j2 : Int)), (43, .bool (decide (e2.Router ≤ e_1.Router)))] [(39001, .cells 25 [.lst false (ml eGAdvert d.Adverts)])] (by kernel_rfl) ?_
    rcases cs_some hm with ⟨c3, hm⟩ | ⟨c3, hm⟩
    · skip
      refine A.cT rfl c3 ?_
      refine A.RS W0 [] [] [(2, .int .i64 (25:Int))] [] (by kernel_rfl) ?_
      refine A.ret ?_
      obtain rfl := some_inj hm
      exact A.fin W0 [] rfl (by kernel_rfl)
    refine A.cF rfl c3 ?_
    refine A.skip ?_
    show acode _ _ _ _ _
    refine A.R W0 [] [(1, hto (inc hx2 hb2))] [(1, .ptr 39001 0), (4, .int .i64 ((j2 + 1 : Nat) : Int))] [(39001, .cells 25 [.lst false (ml eGAdvert d.Adverts)])] (by kernel_rfl) ?_
    exact Exists.intro () (And.intro hm (Weak.go [] [] (by kernel_rfl)))
  rintro j2 ⟨⟩ hj2 hl2 hm
  rw [hK2] at hm
  refine A.seq ?_
  refine A.RS W0 [] [(3, hto (lnE eGAdvert d.Adverts))] [(1, .ptr 39001 0), (4, .int .i64 (j2 : Int)), (27, .bool (decide ((j2 : Int) < (d.Adverts.length:Int))))] [(39001, .cells 25 [.lst false (ml eGAdvert d.Adverts)])] (by kernel_rfl) ?_
  refine A.cF rfl (ltF hl2) ?_
  refine A.exit ?_
  show acode _ _ _ _ _
  refine A.RS W0 [] [] [(2, .int .i64 (0:Int))] [] (by kernel_rfl) ?_
  refine A.ret ?_
  obtain rfl := some_inj hm
  exact A.fin W0 [] rfl (by kernel_rfl)
theorem m_ref08_Same_ok {a : GDatabase} {b : GDatabase} {r : Bool} (hm : m_ref08_Same a b = some r) : RO Tryz.prog 15 [] [.agg [.lst false (ml eGAdvert a.Adverts)], .agg [.lst false (ml eGAdvert b.Adverts)]] (.bool r) := by
  refine enterA Tryz.func15 rfl rfl ?_
  unfold m_ref08_Same at hm
  refine A.RS W0 [] [(0, .al 15002), (1, .al 15003)] [(2, .ptr 15002 0), (3, .ptr 15003 0)] [(15002, .cells 25 [.lst false (ml eGAdvert a.Adverts)]), (15003, .cells 25 [.lst false (ml eGAdvert b.Adverts)])] (by kernel_rfl) ?_
  refine A.seq ?_
  refine A.RS W0 [] [(2, hto (lnE eGAdvert a.Adverts)), (5, hto (lnE eGAdvert b.Adverts))] [(2, .ptr 15002 0), (3, .ptr 15003 0), (12, .bool (!decide ((a.Adverts.length:Int) = (b.Adverts.length:Int))))] [(15002, .cells 25 [.lst false (ml eGAdvert a.Adverts)]), (15003, .cells 25 [.lst false (ml eGAdvert b.Adverts)])] (by kernel_rfl) ?_
  rcases cs_some hm with ⟨c1, hm⟩ | ⟨c1, hm⟩
  · skip
    refine A.cT rfl c1 ?_
    refine A.RS W0 [] [] [(4, .bool false)] [] (by kernel_rfl) ?_
    refine A.ret ?_
    obtain rfl := some_inj hm
    exact A.fin W0 [] rfl (by kernel_rfl)
  refine A.cF rfl c1 ?_
  refine A.skip ?_
  show acode _ _ _ _ _
  refine A.seq ?_
  refine A.RS W0 [] [] [(2, .ptr 15002 0), (3, .ptr 15003 0), (5, .int .i64 (0:Int))] [(15002, .cells 25 [.lst false (ml eGAdvert a.Adverts)]), (15003, .cells 25 [.lst false (ml eGAdvert b.Adverts)])] (by kernel_rfl) ?_
  refine A.block ?_
  refine A.bC 2 0 rfl rfl rfl fun hb1 => ?_
  obtain ⟨B1, K1, hB1, hK1, hm⟩ := forI_some hm
  refine A.lpI (l := a.Adverts) (j0 := 0) (B := B1) (K := K1) hm (fun j1 => fun sg => match sg with | () => [(2, .ptr 15002 0), (3, .ptr 15003 0), (5, .int .i64 (j1 : Int))]) (fun j1 => fun sg => match sg with | () => [(15002, .cells 25 [.lst false (ml eGAdvert a.Adverts)]), (15003, .cells 25 [.lst false (ml eGAdvert b.Adverts)])]) ?_ ?_ ?_
  · exact Weak.go [] [] (by kernel_rfl)
  · skip
    rintro j1 e1 Z1 ⟨⟩ hj1 hx1 hm
    rw [hB1] at hm
    refine A.seq ?_
    refine A.RS W0 [] [(3, hto (lnE eGAdvert a.Adverts))] [(2, .ptr 15002 0), (3, .ptr 15003 0), (5, .int .i64 (j1 : Int)), (17, .bool (decide ((j1 : Int) < (a.Adverts.length:Int))))] [(15002, .cells 25 [.lst false (ml eGAdvert a.Adverts)]), (15003, .cells 25 [.lst false (ml eGAdvert b.Adverts)])] (by kernel_rfl) ?_
    refine A.cT rfl (ltT hx1) ?_
    refine A.skip ?_
    show acode _ _ _ _ _
    refine A.seq ?_
    refine A.block ?_
    obtain ⟨e_1, h1, hm⟩ := bnd_some hm
    obtain ⟨vx_1, h2, hm⟩ := bnd_some hm
    refine A.RS W0 [] [(3, hix (ix eGAdvert (elO_nat hx1))), (8, hix (ix eGAdvert h1)), (10, hro (m_ref07_Same_ok h2) ck43)] [(2, .ptr 15002 0), (3, .ptr 15003 0), (5, .int .i64 (j1 : Int)), (31, .bool (!vx_1))] [(15002, .cells 25 [.lst false (ml eGAdvert a.Adverts)]), (15003, .cells 25 [.lst false (ml eGAdvert b.Adverts)])] (by kernel_rfl) ?_
    rcases cs_some hm with ⟨c2, hm⟩ | ⟨c2, hm⟩
    · skip
      refine A.cT rfl c2 ?_
      refine A.RS W0 [] [] [(4, .bool false)] [] (by kernel_rfl) ?_
      refine A.ret ?_
      obtain rfl := some_inj hm
      exact A.fin W0 [] rfl (by kernel_rfl)
    refine A.cF rfl c2 ?_
    refine A.skip ?_
    show acode _ _ _ _ _
    refine A.R W0 [] [(1, hto (inc hx1 hb1))] [(2, .ptr 15002 0), (3, .ptr 15003 0), (5, .int .i64 ((j1 + 1 : Nat) : Int))] [(15002, .cells 25 [.lst false (ml eGAdvert a.Adverts)]), (15003, .cells 25 [.lst false (ml eGAdvert b.Adverts)])] (by kernel_rfl) ?_
    exact Exists.intro () (And.intro hm (Weak.go [] [] (by kernel_rfl)))
  rintro j1 ⟨⟩ hj1 hl1 hm
  rw [hK1] at hm
  refine A.seq ?_
  refine A.RS W0 [] [(3, hto (lnE eGAdvert a.Adverts))] [(2, .ptr 15002 0), (3, .ptr 15003 0), (5, .int .i64 (j1 : Int)), (17, .bool (decide ((j1 : Int) < (a.Adverts.length:Int))))] [(15002, .cells 25 [.lst false (ml eGAdvert a.Adverts)]), (15003, .cells 25 [.lst false (ml eGAdvert b.Adverts)])] (by kernel_rfl) ?_
  refine A.cF rfl (ltF hl1) ?_
  refine A.exit ?_
  show acode _ _ _ _ _
  refine A.RS W0 [] [] [(4, .bool true)] [] (by kernel_rfl) ?_
  refine A.ret ?_
  obtain rfl := some_inj hm
  exact A.fin W0 [] rfl (by kernel_rfl)
theorem m_ref08_Find_ok {d : GDatabase} {router : Int} {r : GAdvert × Bool} (hm : m_ref08_Find d router = some r) : RO Tryz.prog 41 [] [.agg [.lst false (ml eGAdvert d.Adverts)], .int .i64 router] (.tup [.agg [.int .i64 r.1.Router, .int .i64 r.1.Seq, .bool r.1.Capable, .lst false (ml eGReach r.1.Links), .lst false (ml eGClaim r.1.Claims)], .bool r.2]) := by
  refine enterA Tryz.func41 rfl rfl ?_
  unfold m_ref08_Find at hm
  refine A.RS W0 [] [(0, .al 41002), (1, .al 41004)] [(1, .int .i64 router), (2, .ptr 41002 0), (4, .ptr 41004 0)] [(41002, .cells 25 [.lst false (ml eGAdvert d.Adverts)]), (41004, .cells 29 [.int .i64 (0:Int), .int .i64 (0:Int), .bool false, .nils, .nils])] (by kernel_rfl) ?_
  refine A.seq ?_
  refine A.RS W0 [] [] [(1, .int .i64 router), (2, .ptr 41002 0), (4, .ptr 41004 0), (6, .int .i64 (0:Int))] [(41002, .cells 25 [.lst false (ml eGAdvert d.Adverts)]), (41004, .cells 29 [.int .i64 (0:Int), .int .i64 (0:Int), .bool false, .nils, .nils])] (by kernel_rfl) ?_
  refine A.block ?_
  refine A.bC 2 0 rfl rfl rfl fun hb1 => ?_
  obtain ⟨B1, K1, hB1, hK1, hm⟩ := forI_some hm
  refine A.lpI (l := d.Adverts) (j0 := 0) (B := B1) (K := K1) hm (fun j1 => fun sg => match sg with | () => [(1, .int .i64 router), (2, .ptr 41002 0), (4, .ptr 41004 0), (6, .int .i64 (j1 : Int))]) (fun j1 => fun sg => match sg with | () => [(41002, .cells 25 [.lst false (ml eGAdvert d.Adverts)]), (41004, .cells 29 [.int .i64 (0:Int), .int .i64 (0:Int), .bool false, .nils, .nils])]) ?_ ?_ ?_
  · exact Weak.go [] [] (by kernel_rfl)
  · skip
    rintro j1 e1 Z1 ⟨⟩ hj1 hx1 hm
    rw [hB1] at hm
    refine A.seq ?_
    refine A.RS W0 [] [(3, hto (lnE eGAdvert d.Adverts))] [(1, .int .i64 router), (2, .ptr 41002 0), (4, .ptr 41004 0), (6, .int .i64 (j1 : Int)), (11, .bool (decide ((j1 : Int) < (d.Adverts.length:Int))))] [(41002, .cells 25 [.lst false (ml eGAdvert d.Adverts)]), (41004, .cells 29 [.int .i64 (0:Int), .int .i64 (0:Int), .bool false, .nils, .nils])] (by kernel_rfl) ?_
    refine A.cT rfl (ltT hx1) ?_
    refine A.skip ?_
    show acode _ _ _ _ _
    refine A.seq ?_
    refine A.block ?_
    refine A.RS W0 [] [(3, hix (ix eGAdvert (elO_nat hx1)))] [(1, .int .i64 router), (2, .ptr 41002 0), (4, .ptr 41004 0), (6, .int .i64 (j1 : Int)), (21, .bool (decide (e1.Router = router)))] [(41002, .cells 25 [.lst false (ml eGAdvert d.Adverts)]), (41004, .cells 29 [.int .i64 (0:Int), .int .i64 (0:Int), .bool false, .nils, .nils])] (by kernel_rfl) ?_
    rcases cs_some hm with ⟨c1, hm⟩ | ⟨c1, hm⟩
    · skip
      refine A.cT rfl c1 ?_
      refine A.RS W0 [] [(3, hix (ix eGAdvert (elO_nat hx1)))] [(4, .ptr 41004 0), (5, .bool true)] [(41004, .cells 29 [.int .i64 e1.Router, .int .i64 e1.Seq, .bool e1.Capable, .lst false (ml eGReach e1.Links), .lst false (ml eGClaim e1.Claims)])] (by kernel_rfl) ?_
      refine A.ret ?_
      obtain rfl := some_inj hm
      exact A.fin W0 [] rfl (by kernel_rfl)
    refine A.cF rfl c1 ?_
    refine A.skip ?_
    show acode _ _ _ _ _
    refine A.R W0 [] [(1, hto (inc hx1 hb1))] [(1, .int .i64 router), (2, .ptr 41002 0), (4, .ptr 41004 0), (6, .int .i64 ((j1 + 1 : Nat) : Int))] [(41002, .cells 25 [.lst false (ml eGAdvert d.Adverts)]), (41004, .cells 29 [.int .i64 (0:Int), .int .i64 (0:Int), .bool false, .nils, .nils])] (by kernel_rfl) ?_
    exact Exists.intro () (And.intro hm (Weak.go [] [] (by kernel_rfl)))
  rintro j1 ⟨⟩ hj1 hl1 hm
  rw [hK1] at hm
  refine A.seq ?_
  refine A.RS W0 [] [(3, hto (lnE eGAdvert d.Adverts))] [(1, .int .i64 router), (2, .ptr 41002 0), (4, .ptr 41004 0), (6, .int .i64 (j1 : Int)), (11, .bool (decide ((j1 : Int) < (d.Adverts.length:Int))))] [(41002, .cells 25 [.lst false (ml eGAdvert d.Adverts)]), (41004, .cells 29 [.int .i64 (0:Int), .int .i64 (0:Int), .bool false, .nils, .nils])] (by kernel_rfl) ?_
  refine A.cF rfl (ltF hl1) ?_
  refine A.exit ?_
  show acode _ _ _ _ _
  refine A.RS W0 [] [] [(4, .ptr 41004 0), (5, .bool false)] [(41004, .cells 29 [.int .i64 (0:Int), .int .i64 (0:Int), .bool false, .nils, .nils])] (by kernel_rfl) ?_
  refine A.ret ?_
  obtain rfl := some_inj hm
  exact A.fin W0 [] rfl (by kernel_rfl)
end Go.Proofs.YtmcjffllahcclaaGreat
