/- The walks of functions of the program. No condition but those that stand in each. -/
import Derived.Test.YtmcjffllahcclaaGreatDL
import Derived.Test.YtmcjffllahcclaaGreatV9
namespace Go.Proofs.YtmcjffllahcclaaGreat
open Go
set_option maxRecDepth 100000
set_option linter.all false
theorem m_law08_awake_ok  {r : Bool} (hm : m_law08_awake = some r) : RO Tryz.prog 17 [] [] (.bool r) := by
  refine enterA Tryz.func17 rfl rfl ?_
  unfold m_law08_awake at hm
  refine A.RS W0 [] [] [] [] (by kernel_rfl) ?_
  refine A.RS W0 [] [(10, .al 17001)] [(1, .ptr 17001 0)] [(17001, .cells 25 [.lst true (ml eGAdvert ([(GAdvert.mk (1:Int) (1:Int) false ([(GReach.mk (2:Int) (1:Int) (0:Int)), (GReach.mk (3:Int) (1:Int) (0:Int))] : List GReach) []), (GAdvert.mk (2:Int) (1:Int) false ([(GReach.mk (1:Int) (4:Int) (0:Int))] : List GReach) []), (GAdvert.mk (3:Int) (1:Int) false [] [])] : List GAdvert))])] (by kernel_rfl) ?_
  obtain ⟨vx_1, h1, hm⟩ := bnd_some hm
  refine A.RS W0 [] [(1, hro (m_database_View_ok h1) ck24), (2, .al 17002)] [(1, .ptr 17001 0), (2, .ptr 17002 0)] [(17001, .cells 25 [.lst true (ml eGAdvert ([(GAdvert.mk (1:Int) (1:Int) false ([(GReach.mk (2:Int) (1:Int) (0:Int)), (GReach.mk (3:Int) (1:Int) (0:Int))] : List GReach) []), (GAdvert.mk (2:Int) (1:Int) false ([(GReach.mk (1:Int) (4:Int) (0:Int))] : List GReach) []), (GAdvert.mk (3:Int) (1:Int) false [] [])] : List GAdvert))]), (17002, .cells 46 [.lst false (ml eGRouter vx_1.Routers), .lst false (ml eGLink vx_1.Links)])] (by kernel_rfl) ?_
  obtain ⟨vx_2, h2, hm⟩ := bnd_some hm
  rcases cs_some hm with ⟨c1, hm⟩ | ⟨c1, hm⟩
  · skip
    rcases cs_some hm with ⟨c2, hm⟩ | ⟨c2, hm⟩
    · skip
      rcases cs_some hm with ⟨c3, hm⟩ | ⟨c3, hm⟩
      · skip
        obtain ⟨e_1, h3, hm⟩ := bnd_some hm
        refine A.RS W0 [] [(1, hro (m_database_Check_ok h2) ck30), (3, hto (bE c1)), (6, hto (lnE eGRouter vx_1.Routers)), (9, hto (bE c2)), (12, hto (lnE eGLink vx_1.Links)), (15, hto (bE c3)), (18, hix (ix eGLink h3)), (21, .sq false 84 (.agg [.int .i64 e_1.A, .int .i64 e_1.B, .int .i64 e_1.CostA, .int .i64 e_1.CostB, .int .i64 e_1.Capacity]) (.agg [.int .i64 (1:Int), .int .i64 (2:Int), .int .i64 (1:Int), .int .i64 (4:Int), .int .i64 (0:Int)]) (eqGLink e_1 (GLink.mk (1:Int) (2:Int) (1:Int) (4:Int) (0:Int))) (fun x y w => eq84_eql x y _ _ _ _ _ _ _ _ _ _ w))] [(0, .bool (eqGLink e_1 (GLink.mk (1:Int) (2:Int) (1:Int) (4:Int) (0:Int))))] [] (by kernel_rfl) ?_
        refine A.ret ?_
        obtain rfl := some_inj hm
        exact A.fin W0 [] rfl (by kernel_rfl)
      refine A.RS W0 [] [(1, hro (m_database_Check_ok h2) ck30), (3, hto (bE c1)), (6, hto (lnE eGRouter vx_1.Routers)), (9, hto (bE c2)), (12, hto (lnE eGLink vx_1.Links)), (15, hto (bE c3))] [(0, .bool false)] [] (by kernel_rfl) ?_
      refine A.ret ?_
      obtain rfl := some_inj hm
      exact A.fin W0 [] rfl (by kernel_rfl)
    refine A.RS W0 [] [(1, hro (m_database_Check_ok h2) ck30), (3, hto (bE c1)), (6, hto (lnE eGRouter vx_1.Routers)), (9, hto (bE c2))] [(0, .bool false)] [] (by kernel_rfl) ?_
    refine A.ret ?_
    obtain rfl := some_inj hm
    exact A.fin W0 [] rfl (by kernel_rfl)
  refine A.RS W0 [] [(1, hro (m_database_Check_ok h2) ck30), (3, hto (bE c1))] [(0, .bool false)] [] (by kernel_rfl) ?_
  refine A.ret ?_
  obtain rfl := some_inj hm
  exact A.fin W0 [] rfl (by kernel_rfl)
theorem m_law08_big_ok {d : GDatabase} {r : Bool} (hm : m_law08_big d = some r) : RO Tryz.prog 16 [] [.agg [.lst false (ml eGAdvert d.Adverts)]] (.bool r) := by
  refine enterA Tryz.func16 rfl rfl ?_
  unfold m_law08_big at hm
  refine A.RS W0 [] [(0, .al 16001)] [(1, .ptr 16001 0)] [(16001, .cells 25 [.lst false (ml eGAdvert d.Adverts)])] (by kernel_rfl) ?_
  refine A.seq ?_
  refine A.RS W0 [] [] [(1, .ptr 16001 0), (3, .int .i64 (0:Int))] [(16001, .cells 25 [.lst false (ml eGAdvert d.Adverts)])] (by kernel_rfl) ?_
  refine A.block ?_
  refine A.bC 1 0 rfl rfl rfl fun hb1 => ?_
  obtain ⟨B1, K1, hB1, hK1, hm⟩ := forI_some hm
  refine A.lpI (l := d.Adverts) (j0 := 0) (B := B1) (K := K1) hm (fun j1 => fun sg => match sg with | () => [(1, .ptr 16001 0), (3, .int .i64 (j1 : Int))]) (fun j1 => fun sg => match sg with | () => [(16001, .cells 25 [.lst false (ml eGAdvert d.Adverts)])]) ?_ ?_ ?_
  · exact Weak.go [] [] (by kernel_rfl)
  · skip
    rintro j1 e1 Z1 ⟨⟩ hj1 hx1 hm
    rw [hB1] at hm
    refine A.seq ?_
    refine A.RS W0 [] [(3, hto (lnE eGAdvert d.Adverts))] [(1, .ptr 16001 0), (3, .int .i64 (j1 : Int)), (8, .bool (decide ((j1 : Int) < (d.Adverts.length:Int))))] [(16001, .cells 25 [.lst false (ml eGAdvert d.Adverts)])] (by kernel_rfl) ?_
    refine A.cT rfl (ltT hx1) ?_
    refine A.skip ?_
    show acode _ _ _ _ _
    refine A.seq ?_
    refine A.block ?_
    refine A.mid [(1, .ptr 16001 0), (3, .int .i64 (j1 : Int)), (28, .bool ((decide ((60:Int) < (e1.Links.length:Int))) || (decide ((60:Int) < (e1.Claims.length:Int)))))] [(16001, .cells 25 [.lst false (ml eGAdvert d.Adverts)])] (fun hk => ?_) ?_
    · skip
      rcases tf (decide ((60:Int) < (e1.Links.length:Int))) with c1 | c1
      · skip
        exact A.RS W0 [] [(3, hix (ix eGAdvert (elO_nat hx1))), (6, hto (lnE eGReach e1.Links)), (8, hto (bE c1)), (17, hto (orT (q := decide ((60:Int) < (e1.Claims.length:Int))) c1))] _ _ (by kernel_rfl) hk
      exact A.RS W0 [] [(3, hix (ix eGAdvert (elO_nat hx1))), (6, hto (lnE eGReach e1.Links)), (8, hto (bE c1)), (12, hix (ix eGAdvert (elO_nat hx1))), (15, hto (lnE eGClaim e1.Claims)), (17, hto (orF (q := decide ((60:Int) < (e1.Claims.length:Int))) c1))] _ _ (by kernel_rfl) hk
    rcases cs_some hm with ⟨c2, hm⟩ | ⟨c2, hm⟩
    · skip
      refine A.cT rfl c2 ?_
      refine A.RS W0 [] [] [(2, .bool true)] [] (by kernel_rfl) ?_
      refine A.ret ?_
      obtain rfl := some_inj hm
      exact A.fin W0 [] rfl (by kernel_rfl)
    refine A.cF rfl c2 ?_
    refine A.skip ?_
    show acode _ _ _ _ _
    refine A.R W0 [] [(1, hto (inc hx1 hb1))] [(1, .ptr 16001 0), (3, .int .i64 ((j1 + 1 : Nat) : Int))] [(16001, .cells 25 [.lst false (ml eGAdvert d.Adverts)])] (by kernel_rfl) ?_
    exact Exists.intro () (And.intro hm (Weak.go [] [] (by kernel_rfl)))
  rintro j1 ⟨⟩ hj1 hl1 hm
  rw [hK1] at hm
  refine A.seq ?_
  refine A.RS W0 [] [(3, hto (lnE eGAdvert d.Adverts))] [(1, .ptr 16001 0), (3, .int .i64 (j1 : Int)), (8, .bool (decide ((j1 : Int) < (d.Adverts.length:Int))))] [(16001, .cells 25 [.lst false (ml eGAdvert d.Adverts)])] (by kernel_rfl) ?_
  refine A.cF rfl (ltF hl1) ?_
  refine A.exit ?_
  show acode _ _ _ _ _
  refine A.RS W0 [] [(2, hto (lnE eGAdvert d.Adverts))] [(2, .bool (decide ((120:Int) < (d.Adverts.length:Int))))] [] (by kernel_rfl) ?_
  refine A.ret ?_
  obtain rfl := some_inj hm
  exact A.fin W0 [] rfl (by kernel_rfl)
end Go.Proofs.YtmcjffllahcclaaGreat
