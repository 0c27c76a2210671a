/- The walks of functions of the program. No condition but those that stand in each. -/
import Derived.Test.YtjckghpceekieaaD8
import Derived.Test.YtjckghpceekieaaV2
import Derived.Test.YtjckghpceekieaaV7
namespace Go.Proofs.Ytjckghpceekieaa
open Go
set_option maxRecDepth 100000
set_option linter.all false
theorem m_ref08_Check_ok {d : GDatabase} {r : Int} (hm : m_ref08_Check d = some r) : RO Try.prog 24 [] [.agg [.lst false (ml eGAdvert d.Adverts)]] (.int .i64 r) := by
  refine enterA Try.func24 rfl rfl ?_
  unfold m_ref08_Check at hm
  refine A.RS W0 [] [(0, .al 24001)] [(1, .ptr 24001 0)] [(24001, .cells 27 [.lst false (ml eGAdvert d.Adverts)])] (by kernel_rfl) ?_
  refine A.seq ?_
  refine A.RS W0 [] [(2, hto (lnE eGAdvert d.Adverts))] [(1, .ptr 24001 0), (8, .bool (decide ((99:Int) < (d.Adverts.length:Int))))] [(24001, .cells 27 [.lst false (ml eGAdvert d.Adverts)])] (by kernel_rfl) ?_
  rcases cs_some hm with ⟨c1, hm⟩ | ⟨c1, hm⟩
  · skip
    refine A.cT rfl c1 ?_
    refine A.RS W0 [] [] [(2, .int .i64 (3:Int))] [] (by kernel_rfl) ?_
    refine A.ret ?_
    obtain rfl := some_inj hm
    exact A.fin W0 [] rfl (by kernel_rfl)
  refine A.cF rfl c1 ?_
  refine A.skip ?_
  show acode _ _ _ _ _
  refine A.seq ?_
  refine A.RS W0 [] [] [(1, .ptr 24001 0), (3, .int .i64 (0:Int))] [(24001, .cells 27 [.lst false (ml eGAdvert d.Adverts)])] (by kernel_rfl) ?_
  refine A.block ?_
  refine A.bC 1 0 rfl rfl rfl fun hb1 => ?_
  obtain ⟨B1, K1, hB1, hK1, hm⟩ := forI_some hm
  refine A.lpI (l := d.Adverts) (j0 := 0) (B := B1) (K := K1) hm (fun j1 => fun sg => match sg with | () => [(1, .ptr 24001 0), (3, .int .i64 (j1 : Int))]) (fun j1 => fun sg => match sg with | () => [(24001, .cells 27 [.lst false (ml eGAdvert d.Adverts)])]) ?_ ?_ ?_
  · exact Weak.go [] [] (by kernel_rfl)
  · skip
    rintro j1 e1 Z1 ⟨⟩ hj1 hx1 hm
    rw [hB1] at hm
    refine A.seq ?_
    refine A.RS W0 [] [(3, hto (lnE eGAdvert d.Adverts))] [(1, .ptr 24001 0), (3, .int .i64 (j1 : Int)), (13, .bool (decide ((j1 : Int) < (d.Adverts.length:Int))))] [(24001, .cells 27 [.lst false (ml eGAdvert d.Adverts)])] (by kernel_rfl) ?_
    refine A.cT rfl (ltT hx1) ?_
    refine A.skip ?_
    show acode _ _ _ _ _
    refine A.seq ?_
    refine A.block ?_
    obtain ⟨vx_1, h1, hm⟩ := bnd_some hm
    refine A.RS W0 [] [(3, hix (ix eGAdvert (elO_nat hx1))), (5, hro (m_ref07_Valid_ok h1) ck49)] [(1, .ptr 24001 0), (3, .int .i64 (j1 : Int)), (22, .bool (!vx_1))] [(24001, .cells 27 [.lst false (ml eGAdvert d.Adverts)])] (by kernel_rfl) ?_
    rcases cs_some hm with ⟨c2, hm⟩ | ⟨c2, hm⟩
    · skip
      refine A.cT rfl c2 ?_
      refine A.RS W0 [] [] [(2, .int .i64 (1:Int))] [] (by kernel_rfl) ?_
      refine A.ret ?_
      obtain rfl := some_inj hm
      exact A.fin W0 [] rfl (by kernel_rfl)
    refine A.cF rfl c2 ?_
    refine A.skip ?_
    show acode _ _ _ _ _
    refine A.R W0 [] [(1, hto (inc hx1 hb1))] [(1, .ptr 24001 0), (3, .int .i64 ((j1 + 1 : Nat) : Int))] [(24001, .cells 27 [.lst false (ml eGAdvert d.Adverts)])] (by kernel_rfl) ?_
    exact Exists.intro () (And.intro hm (Weak.go [] [] (by kernel_rfl)))
  rintro j1 ⟨⟩ hj1 hl1 hm
  rw [hK1] at hm
  refine A.seq ?_
  refine A.RS W0 [] [(3, hto (lnE eGAdvert d.Adverts))] [(1, .ptr 24001 0), (3, .int .i64 (j1 : Int)), (13, .bool (decide ((j1 : Int) < (d.Adverts.length:Int))))] [(24001, .cells 27 [.lst false (ml eGAdvert d.Adverts)])] (by kernel_rfl) ?_
  refine A.cF rfl (ltF hl1) ?_
  refine A.exit ?_
  show acode _ _ _ _ _
  refine A.seq ?_
  refine A.RS W0 [] [] [(1, .ptr 24001 0), (4, .int .i64 (1:Int))] [(24001, .cells 27 [.lst false (ml eGAdvert d.Adverts)])] (by kernel_rfl) ?_
  refine A.block ?_
  refine A.bC 1 0 rfl rfl rfl fun hb2 => ?_
  obtain ⟨B2, K2, hB2, hK2, hm⟩ := forI_some hm
  refine A.lpI (l := d.Adverts) (j0 := 1) (B := B2) (K := K2) hm (fun j2 => fun sg => match sg with | () => [(1, .ptr 24001 0), (4, .int .i64 (j2 : Int))]) (fun j2 => fun sg => match sg with | () => [(24001, .cells 27 [.lst false (ml eGAdvert d.Adverts)])]) ?_ ?_ ?_
  · exact Weak.go [] [] (by kernel_rfl)
  · skip
    rintro j2 e2 Z2 ⟨⟩ hj2 hx2 hm
    rw [hB2] at hm
    refine A.seq ?_
    refine A.RS W0 [] [(3, hto (lnE eGAdvert d.Adverts))] [(1, .ptr 24001 0), (4, .int .i64 (j2 : Int)), (27, .bool (decide ((j2 : Int) < (d.Adverts.length:Int))))] [(24001, .cells 27 [.lst false (ml eGAdvert d.Adverts)])] (by kernel_rfl) ?_
    refine A.cT rfl (ltT hx2) ?_
    refine A.skip ?_
    show acode _ _ _ _ _
    refine A.seq ?_
    refine A.block ?_
    obtain ⟨e_1, h2, hm⟩ := bnd_some hm
    refine A.RS W0 [] [(4, hix (ix eGAdvert h2)), (10, hix (ix eGAdvert (elO_nat hx2)))] [(1, .ptr 24001 0), (4, .int .i64 (j2 : Int)), (43, .bool (decide (e2.Router ≤ e_1.Router)))] [(24001, .cells 27 [.lst false (ml eGAdvert d.Adverts)])] (by kernel_rfl) ?_
    rcases cs_some hm with ⟨c3, hm⟩ | ⟨c3, hm⟩
    · skip
      refine A.cT rfl c3 ?_
      refine A.RS W0 [] [] [(2, .int .i64 (25:Int))] [] (by kernel_rfl) ?_
      refine A.ret ?_
      obtain rfl := some_inj hm
      exact A.fin W0 [] rfl (by kernel_rfl)
    refine A.cF rfl c3 ?_
    refine A.skip ?_
    show acode _ _ _ _ _
    refine A.R W0 [] [(1, hto (inc hx2 hb2))] [(1, .ptr 24001 0), (4, .int .i64 ((j2 + 1 : Nat) : Int))] [(24001, .cells 27 [.lst false (ml eGAdvert d.Adverts)])] (by kernel_rfl) ?_
    exact Exists.intro () (And.intro hm (Weak.go [] [] (by kernel_rfl)))
  rintro j2 ⟨⟩ hj2 hl2 hm
  rw [hK2] at hm
  refine A.seq ?_
  refine A.RS W0 [] [(3, hto (lnE eGAdvert d.Adverts))] [(1, .ptr 24001 0), (4, .int .i64 (j2 : Int)), (27, .bool (decide ((j2 : Int) < (d.Adverts.length:Int))))] [(24001, .cells 27 [.lst false (ml eGAdvert d.Adverts)])] (by kernel_rfl) ?_
  refine A.cF rfl (ltF hl2) ?_
  refine A.exit ?_
  show acode _ _ _ _ _
  refine A.RS W0 [] [] [(2, .int .i64 (0:Int))] [] (by kernel_rfl) ?_
  refine A.ret ?_
  obtain rfl := some_inj hm
  exact A.fin W0 [] rfl (by kernel_rfl)
theorem m_ref08_Same_ok {a : GDatabase} {b : GDatabase} {r : Bool} (hm : m_ref08_Same a b = some r) : RO Try.prog 26 [] [.agg [.lst false (ml eGAdvert a.Adverts)], .agg [.lst false (ml eGAdvert b.Adverts)]] (.bool r) := by
  refine enterA Try.func26 rfl rfl ?_
  unfold m_ref08_Same at hm
  refine A.RS W0 [] [(0, .al 26002), (1, .al 26003)] [(2, .ptr 26002 0), (3, .ptr 26003 0)] [(26002, .cells 27 [.lst false (ml eGAdvert a.Adverts)]), (26003, .cells 27 [.lst false (ml eGAdvert b.Adverts)])] (by kernel_rfl) ?_
  refine A.seq ?_
  refine A.RS W0 [] [(2, hto (lnE eGAdvert a.Adverts)), (5, hto (lnE eGAdvert b.Adverts))] [(2, .ptr 26002 0), (3, .ptr 26003 0), (12, .bool (!decide ((a.Adverts.length:Int) = (b.Adverts.length:Int))))] [(26002, .cells 27 [.lst false (ml eGAdvert a.Adverts)]), (26003, .cells 27 [.lst false (ml eGAdvert b.Adverts)])] (by kernel_rfl) ?_
  rcases cs_some hm with ⟨c1, hm⟩ | ⟨c1, hm⟩
  · skip
    refine A.cT rfl c1 ?_
    refine A.RS W0 [] [] [(4, .bool false)] [] (by kernel_rfl) ?_
    refine A.ret ?_
    obtain rfl := some_inj hm
    exact A.fin W0 [] rfl (by kernel_rfl)
  refine A.cF rfl c1 ?_
  refine A.skip ?_
  show acode _ _ _ _ _
  refine A.seq ?_
  refine A.RS W0 [] [] [(2, .ptr 26002 0), (3, .ptr 26003 0), (5, .int .i64 (0:Int))] [(26002, .cells 27 [.lst false (ml eGAdvert a.Adverts)]), (26003, .cells 27 [.lst false (ml eGAdvert b.Adverts)])] (by kernel_rfl) ?_
  refine A.block ?_
  refine A.bC 2 0 rfl rfl rfl fun hb1 => ?_
  obtain ⟨B1, K1, hB1, hK1, hm⟩ := forI_some hm
  refine A.lpI (l := a.Adverts) (j0 := 0) (B := B1) (K := K1) hm (fun j1 => fun sg => match sg with | () => [(2, .ptr 26002 0), (3, .ptr 26003 0), (5, .int .i64 (j1 : Int))]) (fun j1 => fun sg => match sg with | () => [(26002, .cells 27 [.lst false (ml eGAdvert a.Adverts)]), (26003, .cells 27 [.lst false (ml eGAdvert b.Adverts)])]) ?_ ?_ ?_
  · exact Weak.go [] [] (by kernel_rfl)
  · skip
    rintro j1 e1 Z1 ⟨⟩ hj1 hx1 hm
    rw [hB1] at hm
    refine A.seq ?_
    refine A.RS W0 [] [(3, hto (lnE eGAdvert a.Adverts))] [(2, .ptr 26002 0), (3, .ptr 26003 0), (5, .int .i64 (j1 : Int)), (17, .bool (decide ((j1 : Int) < (a.Adverts.length:Int))))] [(26002, .cells 27 [.lst false (ml eGAdvert a.Adverts)]), (26003, .cells 27 [.lst false (ml eGAdvert b.Adverts)])] (by kernel_rfl) ?_
    refine A.cT rfl (ltT hx1) ?_
    refine A.skip ?_
    show acode _ _ _ _ _
    refine A.seq ?_
    refine A.block ?_
    obtain ⟨e_1, h1, hm⟩ := bnd_some hm
    obtain ⟨vx_1, h2, hm⟩ := bnd_some hm
    refine A.RS W0 [] [(3, hix (ix eGAdvert (elO_nat hx1))), (8, hix (ix eGAdvert h1)), (10, hro (m_ref07_Same_ok h2) ck28)] [(2, .ptr 26002 0), (3, .ptr 26003 0), (5, .int .i64 (j1 : Int)), (31, .bool (!vx_1))] [(26002, .cells 27 [.lst false (ml eGAdvert a.Adverts)]), (26003, .cells 27 [.lst false (ml eGAdvert b.Adverts)])] (by kernel_rfl) ?_
    rcases cs_some hm with ⟨c2, hm⟩ | ⟨c2, hm⟩
    · skip
      refine A.cT rfl c2 ?_
      refine A.RS W0 [] [] [(4, .bool false)] [] (by kernel_rfl) ?_
      refine A.ret ?_
      obtain rfl := some_inj hm
      exact A.fin W0 [] rfl (by kernel_rfl)
    refine A.cF rfl c2 ?_
    refine A.skip ?_
    show acode _ _ _ _ _
    refine A.R W0 [] [(1, hto (inc hx1 hb1))] [(2, .ptr 26002 0), (3, .ptr 26003 0), (5, .int .i64 ((j1 + 1 : Nat) : Int))] [(26002, .cells 27 [.lst false (ml eGAdvert a.Adverts)]), (26003, .cells 27 [.lst false (ml eGAdvert b.Adverts)])] (by kernel_rfl) ?_
    exact Exists.intro () (And.intro hm (Weak.go [] [] (by kernel_rfl)))
  rintro j1 ⟨⟩ hj1 hl1 hm
  rw [hK1] at hm
  refine A.seq ?_
  refine A.RS W0 [] [(3, hto (lnE eGAdvert a.Adverts))] [(2, .ptr 26002 0), (3, .ptr 26003 0), (5, .int .i64 (j1 : Int)), (17, .bool (decide ((j1 : Int) < (a.Adverts.length:Int))))] [(26002, .cells 27 [.lst false (ml eGAdvert a.Adverts)]), (26003, .cells 27 [.lst false (ml eGAdvert b.Adverts)])] (by kernel_rfl) ?_
  refine A.cF rfl (ltF hl1) ?_
  refine A.exit ?_
  show acode _ _ _ _ _
  refine A.RS W0 [] [] [(4, .bool true)] [] (by kernel_rfl) ?_
  refine A.ret ?_
  obtain rfl := some_inj hm
  exact A.fin W0 [] rfl (by kernel_rfl)
theorem m_ref08_Find_ok {d : GDatabase} {router : Int} {r : GAdvert × Bool} (hm : m_ref08_Find d router = some r) : RO Try.prog 11 [] [.agg [.lst false (ml eGAdvert d.Adverts)], .int .i64 router] (.tup [.agg [.int .i64 r.1.Router, .int .i64 r.1.Seq, .bool r.1.Capable, .lst false (ml eGReach r.1.Links), .lst false (ml eGClaim r.1.Claims)], .bool r.2]) := by
  refine enterA Try.func11 rfl rfl ?_
  unfold m_ref08_Find at hm
  refine A.RS W0 [] [(0, .al 11002), (1, .al 11004)] [(1, .int .i64 router), (2, .ptr 11002 0), (4, .ptr 11004 0)] [(11002, .cells 27 [.lst false (ml eGAdvert d.Adverts)]), (11004, .cells 38 [.int .i64 (0:Int), .int .i64 (0:Int), .bool false, .nils, .nils])] (by kernel_rfl) ?_
  refine A.seq ?_
  refine A.RS W0 [] [] [(1, .int .i64 router), (2, .ptr 11002 0), (4, .ptr 11004 0), (6, .int .i64 (0:Int))] [(11002, .cells 27 [.lst false (ml eGAdvert d.Adverts)]), (11004, .cells 38 [.int .i64 (0:Int), .int .i64 (0:Int), .bool false, .nils, .nils])] (by kernel_rfl) ?_
  refine A.block ?_
  refine A.bC 2 0 rfl rfl rfl fun hb1 => ?_
  obtain ⟨B1, K1, hB1, hK1, hm⟩ := forI_some hm
  refine A.lpI (l := d.Adverts) (j0 := 0) (B := B1) (K := K1) hm (fun j1 => fun sg => match sg with | () => [(1, .int .i64 router), (2, .ptr 11002 0), (4, .ptr 11004 0), (6, .int .i64 (j1 : Int))]) (fun j1 => fun sg => match sg with | () => [(11002, .cells 27 [.lst false (ml eGAdvert d.Adverts)]), (11004, .cells 38 [.int .i64 (0:Int), .int .i64 (0:Int), .bool false, .nils, .nils])]) ?_ ?_ ?_
  · exact Weak.go [] [] (by kernel_rfl)
  · skip
    rintro j1 e1 Z1 ⟨⟩ hj1 hx1 hm
    rw [hB1] at hm
    refine A.seq ?_
    refine A.RS W0 [] [(3, hto (lnE eGAdvert d.Adverts))] [(1, .int .i64 router), (2, .ptr 11002 0), (4, .ptr 11004 0), (6, .int .i64 (j1 : Int)), (11, .bool (decide ((j1 : Int) < (d.Adverts.length:Int))))] [(11002, .cells 27 [.lst false (ml eGAdvert d.Adverts)]), (11004, .cells 38 [.int .i64 (0:Int), .int .i64 (0:Int), .bool false, .nils, .nils])] (by kernel_rfl) ?_
    refine A.cT rfl (ltT hx1) ?_
    refine A.skip ?_
    show acode _ _ _ _ _
    refine A.seq ?_
    refine A.block ?_
    refine A.RS W0 [] [(3, hix (ix eGAdvert (elO_nat hx1)))] [(1, .int .i64 router), (2, .ptr 11002 0), (4, .ptr 11004 0), (6, .int .i64 (j1 : Int)), (21, .bool (decide (e1.Router = router)))] [(11002, .cells 27 [.lst false (ml eGAdvert d.Adverts)]), (11004, .cells 38 [.int .i64 (0:Int), .int .i64 (0:Int), .bool false, .nils, .nils])] (by kernel_rfl) ?_
    rcases cs_some hm with ⟨c1, hm⟩ | ⟨c1, hm⟩
    · skip
      refine A.cT rfl c1 ?_
      refine A.RS W0 [] [(3, hix (ix eGAdvert (elO_nat hx1)))] [(4, .ptr 11004 0), (5, .bool true)] [(11004, .cells 38 [.int .i64 e1.Router, .int .i64 e1.Seq, .bool e1.Capable, .lst false (ml eGReach e1.Links), .lst false (ml eGClaim e1.Claims)])] (by kernel_rfl) ?_
      refine A.ret ?_
      obtain rfl := some_inj hm
      exact A.fin W0 [] rfl (by kernel_rfl)
    refine A.cF rfl c1 ?_
    refine A.skip ?_
    show acode _ _ _ _ _
    refine A.R W0 [] [(1, hto (inc hx1 hb1))] [(1, .int .i64 router), (2, .ptr 11002 0), (4, .ptr 11004 0), (6, .int .i64 ((j1 + 1 : Nat) : Int))] [(11002, .cells 27 [.lst false (ml eGAdvert d.Adverts)]), (11004, .cells 38 [.int .i64 (0:Int), .int .i64 (0:Int), .bool false, .nils, .nils])] (by kernel_rfl) ?_
    exact Exists.intro () (And.intro hm (Weak.go [] [] (by kernel_rfl)))
  rintro j1 ⟨⟩ hj1 hl1 hm
  rw [hK1] at hm
  refine A.seq ?_
  refine A.RS W0 [] [(3, hto (lnE eGAdvert d.Adverts))] [(1, .int .i64 router), (2, .ptr 11002 0), (4, .ptr 11004 0), (6, .int .i64 (j1 : Int)), (11, .bool (decide ((j1 : Int) < (d.Adverts.length:Int))))] [(11002, .cells 27 [.lst false (ml eGAdvert d.Adverts)]), (11004, .cells 38 [.int .i64 (0:Int), .int .i64 (0:Int), .bool false, .nils, .nils])] (by kernel_rfl) ?_
  refine A.cF rfl (ltF hl1) ?_
  refine A.exit ?_
  show acode _ _ _ _ _
  refine A.RS W0 [] [] [(4, .ptr 11004 0), (5, .bool false)] [(11004, .cells 38 [.int .i64 (0:Int), .int .i64 (0:Int), .bool false, .nils, .nils])] (by kernel_rfl) ?_
  refine A.ret ?_
  obtain rfl := some_inj hm
  exact A.fin W0 [] rfl (by kernel_rfl)
theorem m_ref08_Reach_ok {a : GAdvert} {neighbour : Int} {r : GReach × Bool} (hm : m_ref08_Reach a neighbour = some r) : RO Try.prog 16 [] [.agg [.int .i64 a.Router, .int .i64 a.Seq, .bool a.Capable, .lst false (ml eGReach a.Links), .lst false (ml eGClaim a.Claims)], .int .i64 neighbour] (.tup [.agg [.int .i64 r.1.Neighbour, .int .i64 r.1.Cost, .int .i64 r.1.Capacity], .bool r.2]) := by
  refine enterA Try.func16 rfl rfl ?_
  unfold m_ref08_Reach at hm
  refine A.RS W0 [] [(0, .al 16002), (1, .al 16004)] [(1, .int .i64 neighbour), (2, .ptr 16002 0), (4, .ptr 16004 0)] [(16002, .cells 38 [.int .i64 a.Router, .int .i64 a.Seq, .bool a.Capable, .lst false (ml eGReach a.Links), .lst false (ml eGClaim a.Claims)]), (16004, .cells 51 [.int .i64 (0:Int), .int .i64 (0:Int), .int .i64 (0:Int)])] (by kernel_rfl) ?_
  refine A.seq ?_
  refine A.RS W0 [] [] [(1, .int .i64 neighbour), (2, .ptr 16002 0), (4, .ptr 16004 0), (6, .int .i64 (0:Int))] [(16002, .cells 38 [.int .i64 a.Router, .int .i64 a.Seq, .bool a.Capable, .lst false (ml eGReach a.Links), .lst false (ml eGClaim a.Claims)]), (16004, .cells 51 [.int .i64 (0:Int), .int .i64 (0:Int), .int .i64 (0:Int)])] (by kernel_rfl) ?_
  refine A.block ?_
  refine A.bC 2 3 rfl rfl rfl fun hb1 => ?_
  obtain ⟨B1, K1, hB1, hK1, hm⟩ := forI_some hm
  refine A.lpI (l := a.Links) (j0 := 0) (B := B1) (K := K1) hm (fun j1 => fun sg => match sg with | () => [(1, .int .i64 neighbour), (2, .ptr 16002 0), (4, .ptr 16004 0), (6, .int .i64 (j1 : Int))]) (fun j1 => fun sg => match sg with | () => [(16002, .cells 38 [.int .i64 a.Router, .int .i64 a.Seq, .bool a.Capable, .lst false (ml eGReach a.Links), .lst false (ml eGClaim a.Claims)]), (16004, .cells 51 [.int .i64 (0:Int), .int .i64 (0:Int), .int .i64 (0:Int)])]) ?_ ?_ ?_
  · exact Weak.go [] [] (by kernel_rfl)
  · skip
    rintro j1 e1 Z1 ⟨⟩ hj1 hx1 hm
    rw [hB1] at hm
    refine A.seq ?_
    refine A.RS W0 [] [(3, hto (lnE eGReach a.Links))] [(1, .int .i64 neighbour), (2, .ptr 16002 0), (4, .ptr 16004 0), (6, .int .i64 (j1 : Int)), (11, .bool (decide ((j1 : Int) < (a.Links.length:Int))))] [(16002, .cells 38 [.int .i64 a.Router, .int .i64 a.Seq, .bool a.Capable, .lst false (ml eGReach a.Links), .lst false (ml eGClaim a.Claims)]), (16004, .cells 51 [.int .i64 (0:Int), .int .i64 (0:Int), .int .i64 (0:Int)])] (by kernel_rfl) ?_
    refine A.cT rfl (ltT hx1) ?_
    refine A.skip ?_
    show acode _ _ _ _ _
    refine A.seq ?_
    refine A.block ?_
    refine A.RS W0 [] [(3, hix (ix eGReach (elO_nat hx1)))] [(1, .int .i64 neighbour), (2, .ptr 16002 0), (4, .ptr 16004 0), (6, .int .i64 (j1 : Int)), (21, .bool (decide (e1.Neighbour = neighbour)))] [(16002, .cells 38 [.int .i64 a.Router, .int .i64 a.Seq, .bool a.Capable, .lst false (ml eGReach a.Links), .lst false (ml eGClaim a.Claims)]), (16004, .cells 51 [.int .i64 (0:Int), .int .i64 (0:Int), .int .i64 (0:Int)])] (by kernel_rfl) ?_
    rcases cs_some hm with ⟨c1, hm⟩ | ⟨c1, hm⟩
    · skip
      refine A.cT rfl c1 ?_
      refine A.RS W0 [] [(3, hix (ix eGReach (elO_nat hx1)))] [(4, .ptr 16004 0), (5, .bool true)] [(16004, .cells 51 [.int .i64 e1.Neighbour, .int .i64 e1.Cost, .int .i64 e1.Capacity])] (by kernel_rfl) ?_
      refine A.ret ?_
      obtain rfl := some_inj hm
      exact A.fin W0 [] rfl (by kernel_rfl)
    refine A.cF rfl c1 ?_
    refine A.skip ?_
    show acode _ _ _ _ _
    refine A.R W0 [] [(1, hto (inc hx1 hb1))] [(1, .int .i64 neighbour), (2, .ptr 16002 0), (4, .ptr 16004 0), (6, .int .i64 ((j1 + 1 : Nat) : Int))] [(16002, .cells 38 [.int .i64 a.Router, .int .i64 a.Seq, .bool a.Capable, .lst false (ml eGReach a.Links), .lst false (ml eGClaim a.Claims)]), (16004, .cells 51 [.int .i64 (0:Int), .int .i64 (0:Int), .int .i64 (0:Int)])] (by kernel_rfl) ?_
    exact Exists.intro () (And.intro hm (Weak.go [] [] (by kernel_rfl)))
  rintro j1 ⟨⟩ hj1 hl1 hm
  rw [hK1] at hm
  refine A.seq ?_
  refine A.RS W0 [] [(3, hto (lnE eGReach a.Links))] [(1, .int .i64 neighbour), (2, .ptr 16002 0), (4, .ptr 16004 0), (6, .int .i64 (j1 : Int)), (11, .bool (decide ((j1 : Int) < (a.Links.length:Int))))] [(16002, .cells 38 [.int .i64 a.Router, .int .i64 a.Seq, .bool a.Capable, .lst false (ml eGReach a.Links), .lst false (ml eGClaim a.Claims)]), (16004, .cells 51 [.int .i64 (0:Int), .int .i64 (0:Int), .int .i64 (0:Int)])] (by kernel_rfl) ?_
  refine A.cF rfl (ltF hl1) ?_
  refine A.exit ?_
  show acode _ _ _ _ _
  refine A.RS W0 [] [] [(4, .ptr 16004 0), (5, .bool false)] [(16004, .cells 51 [.int .i64 (0:Int), .int .i64 (0:Int), .int .i64 (0:Int)])] (by kernel_rfl) ?_
  refine A.ret ?_
  obtain rfl := some_inj hm
  exact A.fin W0 [] rfl (by kernel_rfl)
theorem m_ref08_linked_ok {d : GDatabase} {a : Int} {b : Int} {r : GReach × GReach × Bool} (hm : m_ref08_linked d a b = some r) : RO Try.prog 45 [] [.agg [.lst false (ml eGAdvert d.Adverts)], .int .i64 a, .int .i64 b] (.tup [.agg [.int .i64 r.1.Neighbour, .int .i64 r.1.Cost, .int .i64 r.1.Capacity], .agg [.int .i64 r.2.1.Neighbour, .int .i64 r.2.1.Cost, .int .i64 r.2.1.Capacity], .bool r.2.2]) := by
  refine enterA Try.func45 rfl rfl ?_
  unfold m_ref08_linked at hm
  refine A.RS W0 [] [(0, .al 45003), (1, .al 45006), (2, .al 45007)] [(1, .int .i64 a), (2, .int .i64 b), (3, .ptr 45003 0), (6, .ptr 45006 0), (7, .ptr 45007 0)] [(45003, .cells 27 [.lst false (ml eGAdvert d.Adverts)]), (45006, .cells 51 [.int .i64 (0:Int), .int .i64 (0:Int), .int .i64 (0:Int)]), (45007, .cells 51 [.int .i64 (0:Int), .int .i64 (0:Int), .int .i64 (0:Int)])] (by kernel_rfl) ?_
  obtain ⟨vx_1, h1, hm⟩ := bnd_some hm
  refine A.RS W0 [] [(2, hro (m_ref08_Find_ok h1) ck11), (6, .al 45009)] [(1, .int .i64 a), (2, .int .i64 b), (3, .ptr 45003 0), (6, .ptr 45006 0), (7, .ptr 45007 0), (9, .ptr 45009 0), (10, .bool vx_1.2)] [(45003, .cells 27 [.lst false (ml eGAdvert d.Adverts)]), (45006, .cells 51 [.int .i64 (0:Int), .int .i64 (0:Int), .int .i64 (0:Int)]), (45007, .cells 51 [.int .i64 (0:Int), .int .i64 (0:Int), .int .i64 (0:Int)]), (45009, .cells 38 [.int .i64 vx_1.1.Router, .int .i64 vx_1.1.Seq, .bool vx_1.1.Capable, .lst false (ml eGReach vx_1.1.Links), .lst false (ml eGClaim vx_1.1.Claims)])] (by kernel_rfl) ?_
  obtain ⟨vx_2, h2, hm⟩ := bnd_some hm
  refine A.RS W0 [] [(2, hro (m_ref08_Find_ok h2) ck11), (6, .al 45011)] [(1, .int .i64 a), (2, .int .i64 b), (6, .ptr 45006 0), (7, .ptr 45007 0), (9, .ptr 45009 0), (10, .bool vx_1.2), (11, .ptr 45011 0), (12, .bool vx_2.2)] [(45006, .cells 51 [.int .i64 (0:Int), .int .i64 (0:Int), .int .i64 (0:Int)]), (45007, .cells 51 [.int .i64 (0:Int), .int .i64 (0:Int), .int .i64 (0:Int)]), (45009, .cells 38 [.int .i64 vx_1.1.Router, .int .i64 vx_1.1.Seq, .bool vx_1.1.Capable, .lst false (ml eGReach vx_1.1.Links), .lst false (ml eGClaim vx_1.1.Claims)]), (45011, .cells 38 [.int .i64 vx_2.1.Router, .int .i64 vx_2.1.Seq, .bool vx_2.1.Capable, .lst false (ml eGReach vx_2.1.Links), .lst false (ml eGClaim vx_2.1.Claims)])] (by kernel_rfl) ?_
  refine A.seq ?_
  refine A.mid [(1, .int .i64 a), (2, .int .i64 b), (6, .ptr 45006 0), (7, .ptr 45007 0), (9, .ptr 45009 0), (11, .ptr 45011 0), (34, .bool ((!vx_1.2) || (!vx_2.2)))] [(45006, .cells 51 [.int .i64 (0:Int), .int .i64 (0:Int), .int .i64 (0:Int)]), (45007, .cells 51 [.int .i64 (0:Int), .int .i64 (0:Int), .int .i64 (0:Int)]), (45009, .cells 38 [.int .i64 vx_1.1.Router, .int .i64 vx_1.1.Seq, .bool vx_1.1.Capable, .lst false (ml eGReach vx_1.1.Links), .lst false (ml eGClaim vx_1.1.Claims)]), (45011, .cells 38 [.int .i64 vx_2.1.Router, .int .i64 vx_2.1.Seq, .bool vx_2.1.Capable, .lst false (ml eGReach vx_2.1.Links), .lst false (ml eGClaim vx_2.1.Claims)])] (fun hk => ?_) ?_
  · skip
    rcases tf (!vx_1.2) with c1 | c1
    · skip
      exact A.RS W0 [] [(2, hto (bE c1)), (5, hto (orT (q := !vx_2.2) c1))] _ _ (by kernel_rfl) hk
    exact A.RS W0 [] [(2, hto (bE c1)), (5, hto (orF (q := !vx_2.2) c1))] _ _ (by kernel_rfl) hk
  rcases cs_some hm with ⟨c2, hm⟩ | ⟨c2, hm⟩
  · skip
    refine A.cT rfl c2 ?_
    refine A.RS W0 [] [] [(6, .ptr 45006 0), (7, .ptr 45007 0), (8, .bool false)] [(45006, .cells 51 [.int .i64 (0:Int), .int .i64 (0:Int), .int .i64 (0:Int)]), (45007, .cells 51 [.int .i64 (0:Int), .int .i64 (0:Int), .int .i64 (0:Int)])] (by kernel_rfl) ?_
    refine A.ret ?_
    obtain rfl := some_inj hm
    exact A.fin W0 [] rfl (by kernel_rfl)
  refine A.cF rfl c2 ?_
  refine A.skip ?_
  show acode _ _ _ _ _
  obtain ⟨vx_3, h3, hm⟩ := bnd_some hm
  refine A.RS W0 [] [(2, hro (m_ref08_Reach_ok h3) ck16), (6, .al 45013)] [(1, .int .i64 a), (6, .ptr 45006 0), (7, .ptr 45007 0), (11, .ptr 45011 0), (13, .ptr 45013 0), (14, .bool vx_3.2)] [(45006, .cells 51 [.int .i64 (0:Int), .int .i64 (0:Int), .int .i64 (0:Int)]), (45007, .cells 51 [.int .i64 (0:Int), .int .i64 (0:Int), .int .i64 (0:Int)]), (45011, .cells 38 [.int .i64 vx_2.1.Router, .int .i64 vx_2.1.Seq, .bool vx_2.1.Capable, .lst false (ml eGReach vx_2.1.Links), .lst false (ml eGClaim vx_2.1.Claims)]), (45013, .cells 51 [.int .i64 vx_3.1.Neighbour, .int .i64 vx_3.1.Cost, .int .i64 vx_3.1.Capacity])] (by kernel_rfl) ?_
  obtain ⟨vx_4, h4, hm⟩ := bnd_some hm
  refine A.RS W0 [] [(2, hro (m_ref08_Reach_ok h4) ck16), (6, .al 45015)] [(6, .ptr 45006 0), (7, .ptr 45007 0), (13, .ptr 45013 0), (14, .bool vx_3.2), (15, .ptr 45015 0), (16, .bool vx_4.2)] [(45006, .cells 51 [.int .i64 (0:Int), .int .i64 (0:Int), .int .i64 (0:Int)]), (45007, .cells 51 [.int .i64 (0:Int), .int .i64 (0:Int), .int .i64 (0:Int)]), (45013, .cells 51 [.int .i64 vx_3.1.Neighbour, .int .i64 vx_3.1.Cost, .int .i64 vx_3.1.Capacity]), (45015, .cells 51 [.int .i64 vx_4.1.Neighbour, .int .i64 vx_4.1.Cost, .int .i64 vx_4.1.Capacity])] (by kernel_rfl) ?_
  refine A.mid [(6, .ptr 45006 0), (7, .ptr 45007 0), (8, .bool (vx_3.2 && vx_4.2))] [(45006, .cells 51 [.int .i64 vx_3.1.Neighbour, .int .i64 vx_3.1.Cost, .int .i64 vx_3.1.Capacity]), (45007, .cells 51 [.int .i64 vx_4.1.Neighbour, .int .i64 vx_4.1.Cost, .int .i64 vx_4.1.Capacity])] (fun hk => ?_) ?_
  · skip
    rcases tf vx_3.2 with c3 | c3
    · skip
      exact A.RS W0 [] [(3, hto (bE c3)), (8, hto (andT (q := vx_4.2) c3))] _ _ (by kernel_rfl) hk
    exact A.RS W0 [] [(3, hto (bE c3)), (8, hto (andF (q := vx_4.2) c3))] _ _ (by kernel_rfl) hk
  refine A.ret ?_
  obtain rfl := some_inj hm
  exact A.fin W0 [] rfl (by kernel_rfl)
theorem m_ref08_View_ok {d : GDatabase} {ata1 : Int} {r : GTopology} (hm : m_ref08_View d ata1 = some r) : RO Try.prog 22 [] [.agg [.lst false (ml eGAdvert d.Adverts)], .int .i64 ata1] (.agg [.lst false (ml eGRouter r.Routers), .lst false (ml eGLink r.Links)]) := by
  refine enterA Try.func22 rfl rfl ?_
  unfold m_ref08_View at hm
  refine A.RS W0 [] [(0, .al 22002), (1, .al 22004)] [(1, .int .i64 ata1), (2, .ptr 22002 0), (4, .ptr 22004 0)] [(22002, .cells 27 [.lst false (ml eGAdvert d.Adverts)]), (22004, .cells 33 [.nils, .nils])] (by kernel_rfl) ?_
  refine A.seq ?_
  obtain ⟨vx_1, h1, hm⟩ := bnd_some hm
  refine A.RS W0 [] [(2, hro (m_ref08_Find_ok h1) ck11), (6, .al 22005)] [(1, .int .i64 ata1), (2, .ptr 22002 0), (4, .ptr 22004 0), (6, .bool vx_1.2)] [(22002, .cells 27 [.lst false (ml eGAdvert d.Adverts)]), (22004, .cells 33 [.nils, .nils])] (by kernel_rfl) ?_
  obtain ⟨J1, hJ1, hm⟩ := jn_some hm
  refine A.J (J := J1) (r := r) (fun v_1 => [(1, .int .i64 ata1), (2, .ptr 22002 0), (4, .ptr 22004 0), (34, .bool v_1)]) (fun v_1 => [(22002, .cells 27 [.lst false (ml eGAdvert d.Adverts)]), (22004, .cells 33 [.nils, .nils])]) ?_ ?_
  · skip
    rcases cs_some hm with ⟨c1, hm⟩ | ⟨c1, hm⟩
    · skip
      refine A.R W0 [] [(2, hto (bE c1))] [(1, .int .i64 ata1), (2, .ptr 22002 0), (4, .ptr 22004 0), (34, .bool true)] [(22002, .cells 27 [.lst false (ml eGAdvert d.Adverts)]), (22004, .cells 33 [.nils, .nils])] (by kernel_rfl) ?_
      exact Exists.intro true (And.intro hm (Weak.go [] [] (by kernel_rfl)))
    obtain ⟨vx_2, h2, hm⟩ := bnd_some hm
    refine A.R W0 [] [(2, hto (bE c1)), (4, hro (m_ref08_Check_ok h2) ck24)] [(1, .int .i64 ata1), (2, .ptr 22002 0), (4, .ptr 22004 0), (34, .bool (!decide (vx_2 = (0:Int))))] [(22002, .cells 27 [.lst false (ml eGAdvert d.Adverts)]), (22004, .cells 33 [.nils, .nils])] (by kernel_rfl) ?_
    exact Exists.intro (!decide (vx_2 = (0:Int))) (And.intro hm (Weak.go [] [] (by kernel_rfl)))
  rintro v_1 hm
  rw [hJ1] at hm
  rcases cs_some hm with ⟨c2, hm⟩ | ⟨c2, hm⟩
  · skip
    refine A.cT rfl c2 ?_
    refine A.RS W0 [] [] [(4, .ptr 22004 0)] [(22004, .cells 33 [.nils, .nils])] (by kernel_rfl) ?_
    refine A.ret ?_
    obtain rfl := some_inj hm
    exact A.fin W0 [] rfl (by kernel_rfl)
  refine A.cF rfl c2 ?_
  refine A.skip ?_
  show acode _ _ _ _ _
  refine A.RS W0 [] [(1, .al 22037)] [(2, .ptr 22002 0), (4, .ptr 22004 0), (7, .own 22037)] [(22002, .cells 27 [.lst false (ml eGAdvert d.Adverts)]), (22004, .cells 33 [.nils, .nils]), (22037, .slice 3 1 (ml eInt ([ata1] : List Int)) 0 false)] (by kernel_rfl) ?_
  refine A.seq ?_
  refine A.RS W0 [] [] [(2, .ptr 22002 0), (4, .ptr 22004 0), (7, .own 22037), (8, .int .i64 (0:Int))] [(22002, .cells 27 [.lst false (ml eGAdvert d.Adverts)]), (22004, .cells 33 [.nils, .nils]), (22037, .slice 3 1 (ml eInt ([ata1] : List Int)) 0 false)] (by kernel_rfl) ?_
  refine A.block ?_
  obtain ⟨F1, n1, hF1, hm⟩ := whl_some hm
  refine A.lpW (F := F1) hm (fun sg => match sg with | (vin_1, i_1) => [(2, .ptr 22002 0), (4, .ptr 22004 0), (7, .own 600022007), (8, .int .i64 i_1)]) (fun sg => match sg with | (vin_1, i_1) => [(22002, .cells 27 [.lst false (ml eGAdvert d.Adverts)]), (22004, .cells 33 [.nils, .nils]), (600022007, .slice 3 1 (ml eInt vin_1) 0 false)]) ?_ ?_
  · exact Weak.go [.sw 22037 600022007] [] (by kernel_rfl)
  rintro Z1 ⟨vin_1, i_1⟩ hm
  rw [hF1] at hm
  refine A.seq ?_
  refine A.RS W0 [] [(2, hto (lnE eInt vin_1))] [(2, .ptr 22002 0), (4, .ptr 22004 0), (7, .own 600022007), (8, .int .i64 i_1), (41, .bool (decide (i_1 < (vin_1.length:Int))))] [(22002, .cells 27 [.lst false (ml eGAdvert d.Adverts)]), (22004, .cells 33 [.nils, .nils]), (600022007, .slice 3 1 (ml eInt vin_1) 0 false)] (by kernel_rfl) ?_
  rcases cs_some hm with ⟨c3, hm⟩ | ⟨c3, hm⟩
  · skip
    refine A.cT rfl c3 ?_
    refine A.skip ?_
    show acode _ _ _ _ _
    refine A.seq ?_
    refine A.block ?_
    refine A.RS W0 [] [] [(2, .ptr 22002 0), (4, .ptr 22004 0), (7, .own 600022007), (8, .int .i64 i_1), (9, .int .i64 (0:Int))] [(22002, .cells 27 [.lst false (ml eGAdvert d.Adverts)]), (22004, .cells 33 [.nils, .nils]), (600022007, .slice 3 1 (ml eInt vin_1) 0 false)] (by kernel_rfl) ?_
    refine A.block ?_
    refine A.bC 2 0 rfl rfl rfl fun hb2 => ?_
    obtain ⟨B2, K2, hB2, hK2, hm⟩ := forI_some hm
    refine A.lpI (l := d.Adverts) (j0 := 0) (B := B2) (K := K2) hm (fun j2 => fun vin_2 => [(2, .ptr 22002 0), (4, .ptr 22004 0), (7, .own 600022007), (8, .int .i64 i_1), (9, .int .i64 (j2 : Int))]) (fun j2 => fun vin_2 => [(22002, .cells 27 [.lst false (ml eGAdvert d.Adverts)]), (22004, .cells 33 [.nils, .nils]), (600022007, .slice 3 1 (ml eInt vin_2) 0 false)]) ?_ ?_ ?_
    · exact Weak.go [] [] (by kernel_rfl)
    · skip
      rintro j2 e2 Z2 vin_2 hj2 hx2 hm
      rw [hB2] at hm
      refine A.seq ?_
      refine A.RS W0 [] [(3, hto (lnE eGAdvert d.Adverts))] [(2, .ptr 22002 0), (4, .ptr 22004 0), (7, .own 600022007), (8, .int .i64 i_1), (9, .int .i64 (j2 : Int)), (48, .bool (decide ((j2 : Int) < (d.Adverts.length:Int))))] [(22002, .cells 27 [.lst false (ml eGAdvert d.Adverts)]), (22004, .cells 33 [.nils, .nils]), (600022007, .slice 3 1 (ml eInt vin_2) 0 false)] (by kernel_rfl) ?_
      refine A.cT rfl (ltT hx2) ?_
      refine A.skip ?_
      show acode _ _ _ _ _
      obtain ⟨J2, hJ2, hm⟩ := jn_some hm
      refine A.J (J := J2) (r := r) (fun vin_3 => [(2, .ptr 22002 0), (4, .ptr 22004 0), (7, .own 600022007), (8, .int .i64 i_1), (9, .int .i64 (j2 : Int))]) (fun vin_3 => [(22002, .cells 27 [.lst false (ml eGAdvert d.Adverts)]), (22004, .cells 33 [.nils, .nils]), (600022007, .slice 3 1 (ml eInt vin_3) 0 false)]) ?_ ?_
      · skip
        refine A.block ?_
        refine A.RS W0 [] [(3, hix (ix eGAdvert (elO_nat hx2)))] [(2, .ptr 22002 0), (4, .ptr 22004 0), (7, .own 600022007), (8, .int .i64 i_1), (9, .int .i64 (j2 : Int)), (10, .int .i64 e2.Router)] [(22002, .cells 27 [.lst false (ml eGAdvert d.Adverts)]), (22004, .cells 33 [.nils, .nils]), (600022007, .slice 3 1 (ml eInt vin_2) 0 false)] (by kernel_rfl) ?_
        obtain ⟨e_1, h3, hm⟩ := bnd_some hm
        obtain ⟨vx_3, h4, hm⟩ := bnd_some hm
        refine A.RS W0 [] [(3, hix (ix eInt h3)), (4, hlo 600022007 0 (ix eInt h3)), (6, hro (m_ref08_linked_ok h4) ck45), (11, .al 22011), (12, .al 22012)] [(2, .ptr 22002 0), (4, .ptr 22004 0), (7, .own 600022007), (8, .int .i64 i_1), (9, .int .i64 (j2 : Int)), (10, .int .i64 e2.Router), (13, .bool vx_3.2.2)] [(22002, .cells 27 [.lst false (ml eGAdvert d.Adverts)]), (22004, .cells 33 [.nils, .nils]), (600022007, .slice 3 1 (ml eInt vin_2) 0 false)] (by kernel_rfl) ?_
        obtain ⟨J3, hJ3, hm⟩ := jn_some hm
        refine A.J (J := J3) (r := r) (fun v_2 => [(2, .ptr 22002 0), (4, .ptr 22004 0), (7, .own 600022007), (8, .int .i64 i_1), (9, .int .i64 (j2 : Int)), (10, .int .i64 e2.Router), (74, .bool v_2)]) (fun v_2 => [(22002, .cells 27 [.lst false (ml eGAdvert d.Adverts)]), (22004, .cells 33 [.nils, .nils]), (600022007, .slice 3 1 (ml eInt vin_2) 0 false)]) ?_ ?_
        · skip
          rcases cs_some hm with ⟨c4, hm⟩ | ⟨c4, hm⟩
          · skip
            obtain ⟨vx_4, h5, hm⟩ := bnd_some hm
            refine A.R W0 [] [(1, hto (bE c4)), (4, hle [600022007] (m_ref04_Has_ok h5) ck43)] [(2, .ptr 22002 0), (4, .ptr 22004 0), (7, .own 600022007), (8, .int .i64 i_1), (9, .int .i64 (j2 : Int)), (10, .int .i64 e2.Router), (74, .bool (!vx_4))] [(22002, .cells 27 [.lst false (ml eGAdvert d.Adverts)]), (22004, .cells 33 [.nils, .nils]), (600022007, .slice 3 1 (ml eInt vin_2) 0 false)] (by kernel_rfl) ?_
            exact Exists.intro (!vx_4) (And.intro hm (Weak.go [] [] (by kernel_rfl)))
          refine A.R W0 [] [(1, hto (bE c4))] [(2, .ptr 22002 0), (4, .ptr 22004 0), (7, .own 600022007), (8, .int .i64 i_1), (9, .int .i64 (j2 : Int)), (10, .int .i64 e2.Router), (74, .bool false)] [(22002, .cells 27 [.lst false (ml eGAdvert d.Adverts)]), (22004, .cells 33 [.nils, .nils]), (600022007, .slice 3 1 (ml eInt vin_2) 0 false)] (by kernel_rfl) ?_
          exact Exists.intro false (And.intro hm (Weak.go [] [] (by kernel_rfl)))
        rintro v_2 hm
        rw [hJ3] at hm
        rcases cs_some hm with ⟨c5, hm⟩ | ⟨c5, hm⟩
        · skip
          refine A.cT rfl c5 ?_
          obtain ⟨l_1, h6, hm⟩ := bnd_some hm
          refine A.R W0 [] [(3, hap 22578 (ap eInt (bytes := 8) (by decide) h6))] [(2, .ptr 22002 0), (4, .ptr 22004 0), (7, .own 22578), (8, .int .i64 i_1), (9, .int .i64 (j2 : Int))] [(22002, .cells 27 [.lst false (ml eGAdvert d.Adverts)]), (22004, .cells 33 [.nils, .nils]), (22578, .slice 3 1 (ml eInt l_1) 0 false)] (by kernel_rfl) ?_
          exact Exists.intro l_1 (And.intro hm (Weak.go [.sw 22578 600022007] [] (by kernel_rfl)))
        refine A.cF rfl c5 ?_
        refine A.skip ?_
        exact Exists.intro vin_2 (And.intro hm (Weak.go [] [] (by kernel_rfl)))
      rintro vin_3 hm
      rw [hJ2] at hm
      refine A.R W0 [] [(1, hto (inc hx2 hb2))] [(2, .ptr 22002 0), (4, .ptr 22004 0), (7, .own 600022007), (8, .int .i64 i_1), (9, .int .i64 ((j2 + 1 : Nat) : Int))] [(22002, .cells 27 [.lst false (ml eGAdvert d.Adverts)]), (22004, .cells 33 [.nils, .nils]), (600022007, .slice 3 1 (ml eInt vin_3) 0 false)] (by kernel_rfl) ?_
      exact Exists.intro vin_3 (And.intro hm (Weak.go [] [] (by kernel_rfl)))
    rintro j2 vin_2 hj2 hl2 hm
    rw [hK2] at hm
    refine A.seq ?_
    refine A.RS W0 [] [(3, hto (lnE eGAdvert d.Adverts))] [(2, .ptr 22002 0), (4, .ptr 22004 0), (7, .own 600022007), (8, .int .i64 i_1), (9, .int .i64 (j2 : Int)), (48, .bool (decide ((j2 : Int) < (d.Adverts.length:Int))))] [(22002, .cells 27 [.lst false (ml eGAdvert d.Adverts)]), (22004, .cells 33 [.nils, .nils]), (600022007, .slice 3 1 (ml eInt vin_2) 0 false)] (by kernel_rfl) ?_
    refine A.cF rfl (ltF hl2) ?_
    refine A.exit ?_
    show acode _ _ _ _ _
    refine A.R W0 [] [] [(2, .ptr 22002 0), (4, .ptr 22004 0), (7, .own 600022007), (8, .int .i64 (w64 (i_1 + (1:Int))))] [(22002, .cells 27 [.lst false (ml eGAdvert d.Adverts)]), (22004, .cells 33 [.nils, .nils]), (600022007, .slice 3 1 (ml eInt vin_2) 0 false)] (by kernel_rfl) ?_
    exact Exists.intro (vin_2, w64 (i_1 + (1:Int))) (And.intro hm (Weak.go [] [] (by kernel_rfl)))
  refine A.cF rfl c3 ?_
  refine A.exit ?_
  show acode _ _ _ _ _
  refine A.RS W0 [] [(0, .al 22014)] [(2, .ptr 22002 0), (4, .ptr 22004 0), (7, .own 600022007), (14, .ptr 22014 0)] [(22002, .cells 27 [.lst false (ml eGAdvert d.Adverts)]), (22004, .cells 33 [.nils, .nils]), (600022007, .slice 3 1 (ml eInt vin_1) 0 false), (22014, .cells 33 [.nils, .nils])] (by kernel_rfl) ?_
  refine A.seq ?_
  refine A.RS W0 [] [] [(2, .ptr 22002 0), (4, .ptr 22004 0), (7, .own 600022007), (14, .ptr 22014 0), (15, .int .i64 (0:Int))] [(22002, .cells 27 [.lst false (ml eGAdvert d.Adverts)]), (22004, .cells 33 [.nils, .nils]), (600022007, .slice 3 1 (ml eInt vin_1) 0 false), (22014, .cells 33 [.nils, .nils])] (by kernel_rfl) ?_
  refine A.block ?_
  refine A.bC 2 0 rfl rfl rfl fun hb3 => ?_
  obtain ⟨B3, K3, hB3, hK3, hm⟩ := forI_some hm
  refine A.lpI (l := d.Adverts) (j0 := 0) (B := B3) (K := K3) hm (fun j3 => fun sg => match sg with | (m_1, m_2) => [(2, .ptr 22002 0), (4, .ptr 22004 0), (7, .own 600022007), (14, .ptr 22014 0), (15, .int .i64 (j3 : Int))]) (fun j3 => fun sg => match sg with | (m_1, m_2) => [(22002, .cells 27 [.lst false (ml eGAdvert d.Adverts)]), (22004, .cells 33 [.nils, .nils]), (600022007, .slice 3 1 (ml eInt vin_1) 0 false), (22014, .cells 33 [.own 702201400, .own 702201401]), (702201400, .slice 46 2 (ml eGRouter m_1) 0 false), (702201401, .slice 49 5 (ml eGLink m_2) 0 false)]) ?_ ?_ ?_
  · exact Weak.go [.ac 22014 702201400 46 2 0, .ac 22014 702201401 49 5 1] [] (by kernel_rfl)
  · skip
    rintro j3 e3 Z3 ⟨m_1, m_2⟩ hj3 hx3 hm
    rw [hB3] at hm
    refine A.seq ?_
    refine A.RS W0 [] [(3, hto (lnE eGAdvert d.Adverts))] [(2, .ptr 22002 0), (4, .ptr 22004 0), (7, .own 600022007), (14, .ptr 22014 0), (15, .int .i64 (j3 : Int)), (83, .bool (decide ((j3 : Int) < (d.Adverts.length:Int))))] [(22002, .cells 27 [.lst false (ml eGAdvert d.Adverts)]), (22004, .cells 33 [.nils, .nils]), (600022007, .slice 3 1 (ml eInt vin_1) 0 false), (22014, .cells 33 [.own 702201400, .own 702201401]), (702201400, .slice 46 2 (ml eGRouter m_1) 0 false), (702201401, .slice 49 5 (ml eGLink m_2) 0 false)] (by kernel_rfl) ?_
    refine A.cT rfl (ltT hx3) ?_
    refine A.skip ?_
    show acode _ _ _ _ _
    obtain ⟨J4, hJ4, hm⟩ := jn_some hm
    refine A.J (J := J4) (r := r) (fun sg => match sg with | (m_3, m_4) => [(2, .ptr 22002 0), (4, .ptr 22004 0), (7, .own 600022007), (14, .ptr 22014 0), (15, .int .i64 (j3 : Int))]) (fun sg => match sg with | (m_3, m_4) => [(22002, .cells 27 [.lst false (ml eGAdvert d.Adverts)]), (22004, .cells 33 [.nils, .nils]), (600022007, .slice 3 1 (ml eInt vin_1) 0 false), (22014, .cells 33 [.own 702201400, .own 702201401]), (702201400, .slice 46 2 (ml eGRouter m_3) 0 false), (702201401, .slice 49 5 (ml eGLink m_4) 0 false)]) ?_ ?_
    · skip
      refine A.block ?_
      refine A.RS W0 [] [(3, hix (ix eGAdvert (elO_nat hx3))), (5, .al 22016)] [(2, .ptr 22002 0), (4, .ptr 22004 0), (7, .own 600022007), (14, .ptr 22014 0), (15, .int .i64 (j3 : Int)), (16, .ptr 22016 0)] [(22002, .cells 27 [.lst false (ml eGAdvert d.Adverts)]), (22004, .cells 33 [.nils, .nils]), (600022007, .slice 3 1 (ml eInt vin_1) 0 false), (22014, .cells 33 [.own 702201400, .own 702201401]), (702201400, .slice 46 2 (ml eGRouter m_1) 0 false), (702201401, .slice 49 5 (ml eGLink m_2) 0 false), (22016, .cells 38 [.int .i64 e3.Router, .int .i64 e3.Seq, .bool e3.Capable, .lst false (ml eGReach e3.Links), .lst false (ml eGClaim e3.Claims)])] (by kernel_rfl) ?_
      refine A.seq ?_
      obtain ⟨vx_5, h7, hm⟩ := bnd_some hm
      refine A.RS W0 [] [(3, hle [600022007] (m_ref04_Has_ok h7) ck43)] [(2, .ptr 22002 0), (4, .ptr 22004 0), (7, .own 600022007), (14, .ptr 22014 0), (15, .int .i64 (j3 : Int)), (16, .ptr 22016 0), (95, .bool (!vx_5))] [(22002, .cells 27 [.lst false (ml eGAdvert d.Adverts)]), (22004, .cells 33 [.nils, .nils]), (600022007, .slice 3 1 (ml eInt vin_1) 0 false), (22014, .cells 33 [.own 702201400, .own 702201401]), (702201400, .slice 46 2 (ml eGRouter m_1) 0 false), (702201401, .slice 49 5 (ml eGLink m_2) 0 false), (22016, .cells 38 [.int .i64 e3.Router, .int .i64 e3.Seq, .bool e3.Capable, .lst false (ml eGReach e3.Links), .lst false (ml eGClaim e3.Claims)])] (by kernel_rfl) ?_
      rcases cs_some hm with ⟨c6, hm⟩ | ⟨c6, hm⟩
      · skip
        refine A.cT rfl c6 ?_
        refine A.exit ?_
        exact Exists.intro (m_1, m_2) (And.intro hm (Weak.go [] [] (by kernel_rfl)))
      refine A.cF rfl c6 ?_
      refine A.skip ?_
      show acode _ _ _ _ _
      obtain ⟨l_2, h8, hm⟩ := bnd_some hm
      refine A.RS W0 [] [(8, hap 22604 (ap eGRouter (bytes := 16) (by decide) h8))] [(2, .ptr 22002 0), (4, .ptr 22004 0), (7, .own 600022007), (14, .ptr 22014 0), (15, .int .i64 (j3 : Int)), (16, .ptr 22016 0)] [(22002, .cells 27 [.lst false (ml eGAdvert d.Adverts)]), (22004, .cells 33 [.nils, .nils]), (600022007, .slice 3 1 (ml eInt vin_1) 0 false), (22014, .cells 33 [.own 22604, .own 702201401]), (702201401, .slice 49 5 (ml eGLink m_2) 0 false), (22016, .cells 38 [.int .i64 e3.Router, .int .i64 e3.Seq, .bool e3.Capable, .lst false (ml eGReach e3.Links), .lst false (ml eGClaim e3.Claims)]), (22604, .slice 46 2 (ml eGRouter l_2) 0 false)] (by kernel_rfl) ?_
      refine A.RS W0 [] [] [(2, .ptr 22002 0), (4, .ptr 22004 0), (7, .own 600022007), (14, .ptr 22014 0), (15, .int .i64 (j3 : Int)), (16, .ptr 22016 0), (17, .int .i64 (w64 ((j3 : Int) + (1:Int))))] [(22002, .cells 27 [.lst false (ml eGAdvert d.Adverts)]), (22004, .cells 33 [.nils, .nils]), (600022007, .slice 3 1 (ml eInt vin_1) 0 false), (22014, .cells 33 [.own 22604, .own 702201401]), (702201401, .slice 49 5 (ml eGLink m_2) 0 false), (22016, .cells 38 [.int .i64 e3.Router, .int .i64 e3.Seq, .bool e3.Capable, .lst false (ml eGReach e3.Links), .lst false (ml eGClaim e3.Claims)]), (22604, .slice 46 2 (ml eGRouter l_2) 0 false)] (by kernel_rfl) ?_
      refine A.block ?_
      obtain ⟨F4, n4, hF4, hm⟩ := whl_some hm
      refine A.lpW (F := F4) hm (fun sg => match sg with | (k_1, m_5) => [(2, .ptr 22002 0), (4, .ptr 22004 0), (7, .own 600022007), (14, .ptr 22014 0), (15, .int .i64 (j3 : Int)), (16, .ptr 22016 0), (17, .int .i64 k_1)]) (fun sg => match sg with | (k_1, m_5) => [(22002, .cells 27 [.lst false (ml eGAdvert d.Adverts)]), (22004, .cells 33 [.nils, .nils]), (600022007, .slice 3 1 (ml eInt vin_1) 0 false), (22014, .cells 33 [.own 22604, .own 702201401]), (702201401, .slice 49 5 (ml eGLink m_5) 0 false), (22016, .cells 38 [.int .i64 e3.Router, .int .i64 e3.Seq, .bool e3.Capable, .lst false (ml eGReach e3.Links), .lst false (ml eGClaim e3.Claims)]), (22604, .slice 46 2 (ml eGRouter l_2) 0 false)]) ?_ ?_
      · exact Weak.go [] [] (by kernel_rfl)
      rintro Z4 ⟨k_1, m_5⟩ hm
      rw [hF4] at hm
      refine A.seq ?_
      refine A.RS W0 [] [(3, hto (lnE eGAdvert d.Adverts))] [(2, .ptr 22002 0), (4, .ptr 22004 0), (7, .own 600022007), (14, .ptr 22014 0), (15, .int .i64 (j3 : Int)), (16, .ptr 22016 0), (17, .int .i64 k_1), (112, .bool (decide (k_1 < (d.Adverts.length:Int))))] [(22002, .cells 27 [.lst false (ml eGAdvert d.Adverts)]), (22004, .cells 33 [.nils, .nils]), (600022007, .slice 3 1 (ml eInt vin_1) 0 false), (22014, .cells 33 [.own 22604, .own 702201401]), (702201401, .slice 49 5 (ml eGLink m_5) 0 false), (22016, .cells 38 [.int .i64 e3.Router, .int .i64 e3.Seq, .bool e3.Capable, .lst false (ml eGReach e3.Links), .lst false (ml eGClaim e3.Claims)]), (22604, .slice 46 2 (ml eGRouter l_2) 0 false)] (by kernel_rfl) ?_
      rcases cs_some hm with ⟨c7, hm⟩ | ⟨c7, hm⟩
      · skip
        refine A.cT rfl c7 ?_
        refine A.skip ?_
        show acode _ _ _ _ _
        obtain ⟨J5, hJ5, hm⟩ := jn_some hm
        refine A.J (J := J5) (r := r) (fun m_6 => [(2, .ptr 22002 0), (4, .ptr 22004 0), (7, .own 600022007), (14, .ptr 22014 0), (15, .int .i64 (j3 : Int)), (16, .ptr 22016 0), (17, .int .i64 k_1)]) (fun m_6 => [(22002, .cells 27 [.lst false (ml eGAdvert d.Adverts)]), (22004, .cells 33 [.nils, .nils]), (600022007, .slice 3 1 (ml eInt vin_1) 0 false), (22014, .cells 33 [.own 22604, .own 702201401]), (702201401, .slice 49 5 (ml eGLink m_6) 0 false), (22016, .cells 38 [.int .i64 e3.Router, .int .i64 e3.Seq, .bool e3.Capable, .lst false (ml eGReach e3.Links), .lst false (ml eGClaim e3.Claims)]), (22604, .slice 46 2 (ml eGRouter l_2) 0 false)]) ?_ ?_
        · skip
          refine A.block ?_
          obtain ⟨e_2, h9, hm⟩ := bnd_some hm
          refine A.RS W0 [] [(3, hix (ix eGAdvert h9))] [(2, .ptr 22002 0), (4, .ptr 22004 0), (7, .own 600022007), (14, .ptr 22014 0), (15, .int .i64 (j3 : Int)), (16, .ptr 22016 0), (17, .int .i64 k_1), (18, .int .i64 e_2.Router)] [(22002, .cells 27 [.lst false (ml eGAdvert d.Adverts)]), (22004, .cells 33 [.nils, .nils]), (600022007, .slice 3 1 (ml eInt vin_1) 0 false), (22014, .cells 33 [.own 22604, .own 702201401]), (702201401, .slice 49 5 (ml eGLink m_5) 0 false), (22016, .cells 38 [.int .i64 e3.Router, .int .i64 e3.Seq, .bool e3.Capable, .lst false (ml eGReach e3.Links), .lst false (ml eGClaim e3.Claims)]), (22604, .slice 46 2 (ml eGRouter l_2) 0 false)] (by kernel_rfl) ?_
          obtain ⟨vx_6, h10, hm⟩ := bnd_some hm
          refine A.RS W0 [] [(4, hro (m_ref08_linked_ok h10) ck45), (9, .al 22019), (10, .al 22020)] [(2, .ptr 22002 0), (4, .ptr 22004 0), (7, .own 600022007), (14, .ptr 22014 0), (15, .int .i64 (j3 : Int)), (16, .ptr 22016 0), (17, .int .i64 k_1), (18, .int .i64 e_2.Router), (19, .ptr 22019 0), (20, .ptr 22020 0), (21, .bool vx_6.2.2)] [(22002, .cells 27 [.lst false (ml eGAdvert d.Adverts)]), (22004, .cells 33 [.nils, .nils]), (600022007, .slice 3 1 (ml eInt vin_1) 0 false), (22014, .cells 33 [.own 22604, .own 702201401]), (702201401, .slice 49 5 (ml eGLink m_5) 0 false), (22016, .cells 38 [.int .i64 e3.Router, .int .i64 e3.Seq, .bool e3.Capable, .lst false (ml eGReach e3.Links), .lst false (ml eGClaim e3.Claims)]), (22604, .slice 46 2 (ml eGRouter l_2) 0 false), (22019, .cells 51 [.int .i64 vx_6.1.Neighbour, .int .i64 vx_6.1.Cost, .int .i64 vx_6.1.Capacity]), (22020, .cells 51 [.int .i64 vx_6.2.1.Neighbour, .int .i64 vx_6.2.1.Cost, .int .i64 vx_6.2.1.Capacity])] (by kernel_rfl) ?_
          refine A.RS W0 [] [] [(2, .ptr 22002 0), (4, .ptr 22004 0), (7, .own 600022007), (14, .ptr 22014 0), (15, .int .i64 (j3 : Int)), (16, .ptr 22016 0), (17, .int .i64 k_1), (18, .int .i64 e_2.Router), (19, .ptr 22019 0), (20, .ptr 22020 0), (130, .bool vx_6.2.2)] [(22002, .cells 27 [.lst false (ml eGAdvert d.Adverts)]), (22004, .cells 33 [.nils, .nils]), (600022007, .slice 3 1 (ml eInt vin_1) 0 false), (22014, .cells 33 [.own 22604, .own 702201401]), (702201401, .slice 49 5 (ml eGLink m_5) 0 false), (22016, .cells 38 [.int .i64 e3.Router, .int .i64 e3.Seq, .bool e3.Capable, .lst false (ml eGReach e3.Links), .lst false (ml eGClaim e3.Claims)]), (22604, .slice 46 2 (ml eGRouter l_2) 0 false), (22019, .cells 51 [.int .i64 vx_6.1.Neighbour, .int .i64 vx_6.1.Cost, .int .i64 vx_6.1.Capacity]), (22020, .cells 51 [.int .i64 vx_6.2.1.Neighbour, .int .i64 vx_6.2.1.Cost, .int .i64 vx_6.2.1.Capacity])] (by kernel_rfl) ?_
          rcases cs_some hm with ⟨c8, hm⟩ | ⟨c8, hm⟩
          · skip
            refine A.cT rfl c8 ?_
            obtain ⟨l_3, h11, hm⟩ := bnd_some hm
            refine A.R W0 [] [(16, hap 22647 (ap eGLink (bytes := 40) (by decide) h11))] [(2, .ptr 22002 0), (4, .ptr 22004 0), (7, .own 600022007), (14, .ptr 22014 0), (15, .int .i64 (j3 : Int)), (16, .ptr 22016 0), (17, .int .i64 k_1)] [(22002, .cells 27 [.lst false (ml eGAdvert d.Adverts)]), (22004, .cells 33 [.nils, .nils]), (600022007, .slice 3 1 (ml eInt vin_1) 0 false), (22014, .cells 33 [.own 22604, .own 22647]), (22016, .cells 38 [.int .i64 e3.Router, .int .i64 e3.Seq, .bool e3.Capable, .lst false (ml eGReach e3.Links), .lst false (ml eGClaim e3.Claims)]), (22604, .slice 46 2 (ml eGRouter l_2) 0 false), (22647, .slice 49 5 (ml eGLink l_3) 0 false)] (by kernel_rfl) ?_
            exact Exists.intro l_3 (And.intro hm (Weak.go [.sw 22647 702201401] [] (by kernel_rfl)))
          refine A.cF rfl c8 ?_
          refine A.skip ?_
          exact Exists.intro m_5 (And.intro hm (Weak.go [] [] (by kernel_rfl)))
        rintro m_6 hm
        rw [hJ5] at hm
        refine A.R W0 [] [] [(2, .ptr 22002 0), (4, .ptr 22004 0), (7, .own 600022007), (14, .ptr 22014 0), (15, .int .i64 (j3 : Int)), (16, .ptr 22016 0), (17, .int .i64 (w64 (k_1 + (1:Int))))] [(22002, .cells 27 [.lst false (ml eGAdvert d.Adverts)]), (22004, .cells 33 [.nils, .nils]), (600022007, .slice 3 1 (ml eInt vin_1) 0 false), (22014, .cells 33 [.own 22604, .own 702201401]), (702201401, .slice 49 5 (ml eGLink m_6) 0 false), (22016, .cells 38 [.int .i64 e3.Router, .int .i64 e3.Seq, .bool e3.Capable, .lst false (ml eGReach e3.Links), .lst false (ml eGClaim e3.Claims)]), (22604, .slice 46 2 (ml eGRouter l_2) 0 false)] (by kernel_rfl) ?_
        exact Exists.intro (w64 (k_1 + (1:Int)), m_6) (And.intro hm (Weak.go [] [] (by kernel_rfl)))
      refine A.cF rfl c7 ?_
      refine A.exit ?_
      exact Exists.intro (l_2, m_5) (And.intro hm (Weak.go [.sw 22604 702201400] [] (by kernel_rfl)))
    rintro ⟨m_3, m_4⟩ hm
    rw [hJ4] at hm
    refine A.R W0 [] [(1, hto (inc hx3 hb3))] [(2, .ptr 22002 0), (4, .ptr 22004 0), (7, .own 600022007), (14, .ptr 22014 0), (15, .int .i64 ((j3 + 1 : Nat) : Int))] [(22002, .cells 27 [.lst false (ml eGAdvert d.Adverts)]), (22004, .cells 33 [.nils, .nils]), (600022007, .slice 3 1 (ml eInt vin_1) 0 false), (22014, .cells 33 [.own 702201400, .own 702201401]), (702201400, .slice 46 2 (ml eGRouter m_3) 0 false), (702201401, .slice 49 5 (ml eGLink m_4) 0 false)] (by kernel_rfl) ?_
    exact Exists.intro (m_3, m_4) (And.intro hm (Weak.go [] [] (by kernel_rfl)))
  rintro j3 ⟨m_1, m_2⟩ hj3 hl3 hm
  rw [hK3] at hm
  refine A.seq ?_
  refine A.RS W0 [] [(3, hto (lnE eGAdvert d.Adverts))] [(2, .ptr 22002 0), (4, .ptr 22004 0), (7, .own 600022007), (14, .ptr 22014 0), (15, .int .i64 (j3 : Int)), (83, .bool (decide ((j3 : Int) < (d.Adverts.length:Int))))] [(22002, .cells 27 [.lst false (ml eGAdvert d.Adverts)]), (22004, .cells 33 [.nils, .nils]), (600022007, .slice 3 1 (ml eInt vin_1) 0 false), (22014, .cells 33 [.own 702201400, .own 702201401]), (702201400, .slice 46 2 (ml eGRouter m_1) 0 false), (702201401, .slice 49 5 (ml eGLink m_2) 0 false)] (by kernel_rfl) ?_
  refine A.cF rfl (ltF hl3) ?_
  refine A.exit ?_
  show acode _ _ _ _ _
  refine A.seq ?_
  obtain ⟨vx_7, h12, hm⟩ := bnd_some hm
  refine A.RS W0 [] [(1, hle [702201400, 702201401] (m_ref05_Check_ok h12) ck12)] [(4, .ptr 22004 0), (14, .ptr 22014 0), (151, .bool (!decide (vx_7 = (0:Int))))] [(22004, .cells 33 [.nils, .nils]), (22014, .cells 33 [.own 702201400, .own 702201401]), (702201400, .slice 46 2 (ml eGRouter m_1) 0 false), (702201401, .slice 49 5 (ml eGLink m_2) 0 false)] (by kernel_rfl) ?_
  rcases cs_some hm with ⟨c9, hm⟩ | ⟨c9, hm⟩
  · skip
    refine A.cT rfl c9 ?_
    refine A.RS W0 [] [] [(4, .ptr 22004 0)] [(22004, .cells 33 [.nils, .nils])] (by kernel_rfl) ?_
    refine A.ret ?_
    obtain rfl := some_inj hm
    exact A.fin W0 [] rfl (by kernel_rfl)
  refine A.cF rfl c9 ?_
  refine A.skip ?_
  show acode _ _ _ _ _
  refine A.RS W0 [] [] [(4, .ptr 22004 0)] [(22004, .cells 33 [.own 702201400, .own 702201401]), (702201400, .slice 46 2 (ml eGRouter m_1) 0 false), (702201401, .slice 49 5 (ml eGLink m_2) 0 false)] (by kernel_rfl) ?_
  refine A.ret ?_
  obtain rfl := some_inj hm
  exact A.fin W0 [.fz [702201400, 702201401]] rfl (by kernel_rfl)
theorem m_ref08_Claims_ok {d : GDatabase} {ata1 : Int} {r : (List GOwned)} (hm : m_ref08_Claims d ata1 = some r) : RO Try.prog 21 [] [.agg [.lst false (ml eGAdvert d.Adverts)], .int .i64 ata1] (.lst false (ml eGOwned r)) := by
  refine enterA Try.func21 rfl rfl ?_
  unfold m_ref08_Claims at hm
  refine A.RS W0 [] [(0, .al 21002)] [(1, .int .i64 ata1), (2, .ptr 21002 0)] [(21002, .cells 27 [.lst false (ml eGAdvert d.Adverts)])] (by kernel_rfl) ?_
  obtain ⟨vx_1, h1, hm⟩ := bnd_some hm
  refine A.RS W0 [] [(2, hro (m_ref08_View_ok h1) ck22), (3, .al 21005)] [(2, .ptr 21002 0), (5, .ptr 21005 0)] [(21002, .cells 27 [.lst false (ml eGAdvert d.Adverts)]), (21005, .cells 33 [.lst false (ml eGRouter vx_1.Routers), .lst false (ml eGLink vx_1.Links)])] (by kernel_rfl) ?_
  refine A.RS W0 [] [] [(2, .ptr 21002 0), (5, .ptr 21005 0), (6, .nils)] [(21002, .cells 27 [.lst false (ml eGAdvert d.Adverts)]), (21005, .cells 33 [.lst false (ml eGRouter vx_1.Routers), .lst false (ml eGLink vx_1.Links)])] (by kernel_rfl) ?_
  refine A.seq ?_
  refine A.RS W0 [] [] [(2, .ptr 21002 0), (5, .ptr 21005 0), (6, .nils), (7, .int .i64 (0:Int))] [(21002, .cells 27 [.lst false (ml eGAdvert d.Adverts)]), (21005, .cells 33 [.lst false (ml eGRouter vx_1.Routers), .lst false (ml eGLink vx_1.Links)])] (by kernel_rfl) ?_
  refine A.block ?_
  refine A.bC 5 0 rfl rfl rfl fun hb1 => ?_
  obtain ⟨B1, K1, hB1, hK1, hm⟩ := forI_some hm
  refine A.lpI (l := vx_1.Routers) (j0 := 0) (B := B1) (K := K1) hm (fun j1 => fun out_1 => [(2, .ptr 21002 0), (5, .ptr 21005 0), (6, .own 600021006), (7, .int .i64 (j1 : Int))]) (fun j1 => fun out_1 => [(21002, .cells 27 [.lst false (ml eGAdvert d.Adverts)]), (21005, .cells 33 [.lst false (ml eGRouter vx_1.Routers), .lst false (ml eGLink vx_1.Links)]), (600021006, .slice 64 4 (ml eGOwned out_1) 0 false)]) ?_ ?_ ?_
  · exact Weak.go [.ad 6 600021006 64 4] [] (by kernel_rfl)
  · skip
    rintro j1 e1 Z1 out_1 hj1 hx1 hm
    rw [hB1] at hm
    refine A.seq ?_
    refine A.RS W0 [] [(3, hto (lnE eGRouter vx_1.Routers))] [(2, .ptr 21002 0), (5, .ptr 21005 0), (6, .own 600021006), (7, .int .i64 (j1 : Int)), (18, .bool (decide ((j1 : Int) < (vx_1.Routers.length:Int))))] [(21002, .cells 27 [.lst false (ml eGAdvert d.Adverts)]), (21005, .cells 33 [.lst false (ml eGRouter vx_1.Routers), .lst false (ml eGLink vx_1.Links)]), (600021006, .slice 64 4 (ml eGOwned out_1) 0 false)] (by kernel_rfl) ?_
    refine A.cT rfl (ltT hx1) ?_
    refine A.skip ?_
    show acode _ _ _ _ _
    refine A.seq ?_
    refine A.block ?_
    obtain ⟨vx_2, h2, hm⟩ := bnd_some hm
    refine A.RS W0 [] [(4, hix (ix eGRouter (elO_nat hx1))), (7, hro (m_ref08_Find_ok h2) ck11), (11, .al 21008)] [(2, .ptr 21002 0), (5, .ptr 21005 0), (6, .own 600021006), (7, .int .i64 (j1 : Int)), (8, .ptr 21008 0)] [(21002, .cells 27 [.lst false (ml eGAdvert d.Adverts)]), (21005, .cells 33 [.lst false (ml eGRouter vx_1.Routers), .lst false (ml eGLink vx_1.Links)]), (600021006, .slice 64 4 (ml eGOwned out_1) 0 false), (21008, .cells 38 [.int .i64 vx_2.1.Router, .int .i64 vx_2.1.Seq, .bool vx_2.1.Capable, .lst false (ml eGReach vx_2.1.Links), .lst false (ml eGClaim vx_2.1.Claims)])] (by kernel_rfl) ?_
    refine A.RS W0 [] [] [(2, .ptr 21002 0), (5, .ptr 21005 0), (6, .own 600021006), (7, .int .i64 (j1 : Int)), (8, .ptr 21008 0), (10, .int .i64 (0:Int))] [(21002, .cells 27 [.lst false (ml eGAdvert d.Adverts)]), (21005, .cells 33 [.lst false (ml eGRouter vx_1.Routers), .lst false (ml eGLink vx_1.Links)]), (600021006, .slice 64 4 (ml eGOwned out_1) 0 false), (21008, .cells 38 [.int .i64 vx_2.1.Router, .int .i64 vx_2.1.Seq, .bool vx_2.1.Capable, .lst false (ml eGReach vx_2.1.Links), .lst false (ml eGClaim vx_2.1.Claims)])] (by kernel_rfl) ?_
    refine A.block ?_
    obtain ⟨F2, n2, hF2, hm⟩ := whl_some hm
    refine A.lpW (F := F2) hm (fun sg => match sg with | (out_2, k_1) => [(2, .ptr 21002 0), (5, .ptr 21005 0), (6, .own 600021006), (7, .int .i64 (j1 : Int)), (8, .ptr 21008 0), (10, .int .i64 k_1)]) (fun sg => match sg with | (out_2, k_1) => [(21002, .cells 27 [.lst false (ml eGAdvert d.Adverts)]), (21005, .cells 33 [.lst false (ml eGRouter vx_1.Routers), .lst false (ml eGLink vx_1.Links)]), (600021006, .slice 64 4 (ml eGOwned out_2) 0 false), (21008, .cells 38 [.int .i64 vx_2.1.Router, .int .i64 vx_2.1.Seq, .bool vx_2.1.Capable, .lst false (ml eGReach vx_2.1.Links), .lst false (ml eGClaim vx_2.1.Claims)])]) ?_ ?_
    · exact Weak.go [] [] (by kernel_rfl)
    rintro Z2 ⟨out_2, k_1⟩ hm
    rw [hF2] at hm
    refine A.seq ?_
    refine A.mid [(2, .ptr 21002 0), (5, .ptr 21005 0), (6, .own 600021006), (7, .int .i64 (j1 : Int)), (8, .ptr 21008 0), (10, .int .i64 k_1), (40, .bool ((decide (k_1 < (vx_2.1.Claims.length:Int))) && vx_2.1.Capable))] [(21002, .cells 27 [.lst false (ml eGAdvert d.Adverts)]), (21005, .cells 33 [.lst false (ml eGRouter vx_1.Routers), .lst false (ml eGLink vx_1.Links)]), (600021006, .slice 64 4 (ml eGOwned out_2) 0 false), (21008, .cells 38 [.int .i64 vx_2.1.Router, .int .i64 vx_2.1.Seq, .bool vx_2.1.Capable, .lst false (ml eGReach vx_2.1.Links), .lst false (ml eGClaim vx_2.1.Claims)])] (fun hk => ?_) ?_
    · skip
      rcases tf (decide (k_1 < (vx_2.1.Claims.length:Int))) with c1 | c1
      · skip
        exact A.RS W0 [] [(3, hto (lnE eGClaim vx_2.1.Claims)), (5, hto (bE c1)), (8, hto (andT (q := vx_2.1.Capable) c1))] _ _ (by kernel_rfl) hk
      exact A.RS W0 [] [(3, hto (lnE eGClaim vx_2.1.Claims)), (5, hto (bE c1)), (8, hto (andF (q := vx_2.1.Capable) c1))] _ _ (by kernel_rfl) hk
    rcases cs_some hm with ⟨c2, hm⟩ | ⟨c2, hm⟩
    · skip
      refine A.cT rfl c2 ?_
      refine A.skip ?_
      show acode _ _ _ _ _
      refine A.seq ?_
      refine A.block ?_
      obtain ⟨e_1, h3, hm⟩ := bnd_some hm
      obtain ⟨l_1, h4, hm⟩ := bnd_some hm
      refine A.R W0 [] [(6, hix (ix eGClaim h3)), (10, hap 21553 (ap eGOwned (bytes := 32) (by decide) h4))] [(2, .ptr 21002 0), (5, .ptr 21005 0), (6, .own 21553), (7, .int .i64 (j1 : Int)), (8, .ptr 21008 0), (10, .int .i64 k_1)] [(21002, .cells 27 [.lst false (ml eGAdvert d.Adverts)]), (21005, .cells 33 [.lst false (ml eGRouter vx_1.Routers), .lst false (ml eGLink vx_1.Links)]), (21008, .cells 38 [.int .i64 vx_2.1.Router, .int .i64 vx_2.1.Seq, .bool vx_2.1.Capable, .lst false (ml eGReach vx_2.1.Links), .lst false (ml eGClaim vx_2.1.Claims)]), (21553, .slice 64 4 (ml eGOwned l_1) 0 false)] (by kernel_rfl) ?_
      show acode _ _ _ _ _
      refine A.R W0 [] [] [(2, .ptr 21002 0), (5, .ptr 21005 0), (6, .own 21553), (7, .int .i64 (j1 : Int)), (8, .ptr 21008 0), (10, .int .i64 (w64 (k_1 + (1:Int))))] [(21002, .cells 27 [.lst false (ml eGAdvert d.Adverts)]), (21005, .cells 33 [.lst false (ml eGRouter vx_1.Routers), .lst false (ml eGLink vx_1.Links)]), (21008, .cells 38 [.int .i64 vx_2.1.Router, .int .i64 vx_2.1.Seq, .bool vx_2.1.Capable, .lst false (ml eGReach vx_2.1.Links), .lst false (ml eGClaim vx_2.1.Claims)]), (21553, .slice 64 4 (ml eGOwned l_1) 0 false)] (by kernel_rfl) ?_
      exact Exists.intro (l_1, w64 (k_1 + (1:Int))) (And.intro hm (Weak.go [.sw 21553 600021006] [] (by kernel_rfl)))
    refine A.cF rfl c2 ?_
    refine A.exit ?_
    show acode _ _ _ _ _
    refine A.R W0 [] [(1, hto (inc hx1 hb1))] [(2, .ptr 21002 0), (5, .ptr 21005 0), (6, .own 600021006), (7, .int .i64 ((j1 + 1 : Nat) : Int))] [(21002, .cells 27 [.lst false (ml eGAdvert d.Adverts)]), (21005, .cells 33 [.lst false (ml eGRouter vx_1.Routers), .lst false (ml eGLink vx_1.Links)]), (600021006, .slice 64 4 (ml eGOwned out_2) 0 false)] (by kernel_rfl) ?_
    exact Exists.intro out_2 (And.intro hm (Weak.go [] [] (by kernel_rfl)))
  rintro j1 out_1 hj1 hl1 hm
  rw [hK1] at hm
  refine A.seq ?_
  refine A.RS W0 [] [(3, hto (lnE eGRouter vx_1.Routers))] [(2, .ptr 21002 0), (5, .ptr 21005 0), (6, .own 600021006), (7, .int .i64 (j1 : Int)), (18, .bool (decide ((j1 : Int) < (vx_1.Routers.length:Int))))] [(21002, .cells 27 [.lst false (ml eGAdvert d.Adverts)]), (21005, .cells 33 [.lst false (ml eGRouter vx_1.Routers), .lst false (ml eGLink vx_1.Links)]), (600021006, .slice 64 4 (ml eGOwned out_1) 0 false)] (by kernel_rfl) ?_
  refine A.cF rfl (ltF hl1) ?_
  refine A.exit ?_
  show acode _ _ _ _ _
  refine A.RS W0 [] [] [(4, .own 600021006)] [(600021006, .slice 64 4 (ml eGOwned out_1) 0 false)] (by kernel_rfl) ?_
  refine A.ret ?_
  obtain rfl := some_inj hm
  exact A.fin W0 [.fz [600021006]] rfl (by kernel_rfl)
end Go.Proofs.Ytjckghpceekieaa
