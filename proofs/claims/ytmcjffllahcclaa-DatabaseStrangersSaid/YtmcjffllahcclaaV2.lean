/- The walks of functions of the program. No condition but those that stand in each. -/
import Derived.Test.YtmcjffllahcclaaDA
import Derived.Test.YtmcjffllahcclaaV0
import Derived.Test.YtmcjffllahcclaaV1
namespace Go.Proofs.Ytmcjffllahcclaa
open Go
set_option maxRecDepth 100000
set_option linter.all false
theorem m_ref05_Same_ok {a : GTopology} {b : GTopology} {r : Bool} (hm : m_ref05_Same a b = some r) : RO Try.prog 8 [] [.agg [.lst false (ml eGRouter a.Routers), .lst false (ml eGLink a.Links)], .agg [.lst false (ml eGRouter b.Routers), .lst false (ml eGLink b.Links)]] (.bool r) := by
  refine enterA Try.func8 rfl rfl ?_
  unfold m_ref05_Same at hm
  refine A.RS W0 [] [(0, .al 8002), (1, .al 8003)] [(2, .ptr 8002 0), (3, .ptr 8003 0)] [(8002, .cells 40 [.lst false (ml eGRouter a.Routers), .lst false (ml eGLink a.Links)]), (8003, .cells 40 [.lst false (ml eGRouter b.Routers), .lst false (ml eGLink b.Links)])] (by kernel_rfl) ?_
  refine A.seq ?_
  refine A.mid [(2, .ptr 8002 0), (3, .ptr 8003 0), (22, .bool ((!decide ((a.Routers.length:Int) = (b.Routers.length:Int))) || (!decide ((a.Links.length:Int) = (b.Links.length:Int)))))] [(8002, .cells 40 [.lst false (ml eGRouter a.Routers), .lst false (ml eGLink a.Links)]), (8003, .cells 40 [.lst false (ml eGRouter b.Routers), .lst false (ml eGLink b.Links)])] (fun hk => ?_) ?_
  · skip
    rcases tf (!decide ((a.Routers.length:Int) = (b.Routers.length:Int))) with c1 | c1
    · skip
      exact A.RS W0 [] [(2, hto (lnE eGRouter a.Routers)), (5, hto (lnE eGRouter b.Routers)), (7, hto (bE c1)), (15, hto (orT (q := !decide ((a.Links.length:Int) = (b.Links.length:Int))) c1))] _ _ (by kernel_rfl) hk
    exact A.RS W0 [] [(2, hto (lnE eGRouter a.Routers)), (5, hto (lnE eGRouter b.Routers)), (7, hto (bE c1)), (10, hto (lnE eGLink a.Links)), (13, hto (lnE eGLink b.Links)), (15, hto (orF (q := !decide ((a.Links.length:Int) = (b.Links.length:Int))) c1))] _ _ (by kernel_rfl) hk
  rcases cs_some hm with ⟨c2, hm⟩ | ⟨c2, hm⟩
  · skip
    refine A.cT rfl c2 ?_
    refine A.RS W0 [] [] [(4, .bool false)] [] (by kernel_rfl) ?_
    refine A.ret ?_
    obtain rfl := some_inj hm
    exact A.fin W0 [] rfl (by kernel_rfl)
  refine A.cF rfl c2 ?_
  refine A.skip ?_
  show acode _ _ _ _ _
  refine A.seq ?_
  refine A.RS W0 [] [] [(2, .ptr 8002 0), (3, .ptr 8003 0), (5, .int .i64 (0:Int))] [(8002, .cells 40 [.lst false (ml eGRouter a.Routers), .lst false (ml eGLink a.Links)]), (8003, .cells 40 [.lst false (ml eGRouter b.Routers), .lst false (ml eGLink b.Links)])] (by kernel_rfl) ?_
  refine A.block ?_
  refine A.bC 2 0 rfl rfl rfl fun hb1 => ?_
  obtain ⟨B1, K1, hB1, hK1, hm⟩ := forI_some hm
  refine A.lpI (l := a.Routers) (j0 := 0) (B := B1) (K := K1) hm (fun j1 => fun sg => match sg with | () => [(2, .ptr 8002 0), (3, .ptr 8003 0), (5, .int .i64 (j1 : Int))]) (fun j1 => fun sg => match sg with | () => [(8002, .cells 40 [.lst false (ml eGRouter a.Routers), .lst false (ml eGLink a.Links)]), (8003, .cells 40 [.lst false (ml eGRouter b.Routers), .lst false (ml eGLink b.Links)])]) ?_ ?_ ?_
  · exact Weak.go [] [] (by kernel_rfl)
  · skip
    rintro j1 e1 Z1 ⟨⟩ hj1 hx1 hm
    rw [hB1] at hm
    refine A.seq ?_
    refine A.RS W0 [] [(3, hto (lnE eGRouter a.Routers))] [(2, .ptr 8002 0), (3, .ptr 8003 0), (5, .int .i64 (j1 : Int)), (27, .bool (decide ((j1 : Int) < (a.Routers.length:Int))))] [(8002, .cells 40 [.lst false (ml eGRouter a.Routers), .lst false (ml eGLink a.Links)]), (8003, .cells 40 [.lst false (ml eGRouter b.Routers), .lst false (ml eGLink b.Links)])] (by kernel_rfl) ?_
    refine A.cT rfl (ltT hx1) ?_
    refine A.skip ?_
    show acode _ _ _ _ _
    refine A.seq ?_
    refine A.block ?_
    obtain ⟨e_1, h1, hm⟩ := bnd_some hm
    refine A.RS W0 [] [(3, hix (ix eGRouter (elO_nat hx1))), (8, hix (ix eGRouter h1)), (10, .sq true 62 (.agg [.int .i64 e1.ID, .bool e1.Capable]) (.agg [.int .i64 e_1.ID, .bool e_1.Capable]) (!(eqGRouter e1 e_1)) (fun x y w => eq62_neq x y _ _ _ _ w))] [(2, .ptr 8002 0), (3, .ptr 8003 0), (5, .int .i64 (j1 : Int)), (40, .bool (!(eqGRouter e1 e_1)))] [(8002, .cells 40 [.lst false (ml eGRouter a.Routers), .lst false (ml eGLink a.Links)]), (8003, .cells 40 [.lst false (ml eGRouter b.Routers), .lst false (ml eGLink b.Links)])] (by kernel_rfl) ?_
    rcases cs_some hm with ⟨c3, hm⟩ | ⟨c3, hm⟩
    · skip
      refine A.cT rfl c3 ?_
      refine A.RS W0 [] [] [(4, .bool false)] [] (by kernel_rfl) ?_
      refine A.ret ?_
      obtain rfl := some_inj hm
      exact A.fin W0 [] rfl (by kernel_rfl)
    refine A.cF rfl c3 ?_
    refine A.skip ?_
    show acode _ _ _ _ _
    refine A.R W0 [] [(1, hto (inc hx1 hb1))] [(2, .ptr 8002 0), (3, .ptr 8003 0), (5, .int .i64 ((j1 + 1 : Nat) : Int))] [(8002, .cells 40 [.lst false (ml eGRouter a.Routers), .lst false (ml eGLink a.Links)]), (8003, .cells 40 [.lst false (ml eGRouter b.Routers), .lst false (ml eGLink b.Links)])] (by kernel_rfl) ?_
    exact Exists.intro () (And.intro hm (Weak.go [] [] (by kernel_rfl)))
  rintro j1 ⟨⟩ hj1 hl1 hm
  rw [hK1] at hm
  refine A.seq ?_
  refine A.RS W0 [] [(3, hto (lnE eGRouter a.Routers))] [(2, .ptr 8002 0), (3, .ptr 8003 0), (5, .int .i64 (j1 : Int)), (27, .bool (decide ((j1 : Int) < (a.Routers.length:Int))))] [(8002, .cells 40 [.lst false (ml eGRouter a.Routers), .lst false (ml eGLink a.Links)]), (8003, .cells 40 [.lst false (ml eGRouter b.Routers), .lst false (ml eGLink b.Links)])] (by kernel_rfl) ?_
  refine A.cF rfl (ltF hl1) ?_
  refine A.exit ?_
  show acode _ _ _ _ _
  refine A.seq ?_
  refine A.RS W0 [] [] [(2, .ptr 8002 0), (3, .ptr 8003 0), (6, .int .i64 (0:Int))] [(8002, .cells 40 [.lst false (ml eGRouter a.Routers), .lst false (ml eGLink a.Links)]), (8003, .cells 40 [.lst false (ml eGRouter b.Routers), .lst false (ml eGLink b.Links)])] (by kernel_rfl) ?_
  refine A.block ?_
  refine A.bC 2 1 rfl rfl rfl fun hb2 => ?_
  obtain ⟨B2, K2, hB2, hK2, hm⟩ := forI_some hm
  refine A.lpI (l := a.Links) (j0 := 0) (B := B2) (K := K2) hm (fun j2 => fun sg => match sg with | () => [(2, .ptr 8002 0), (3, .ptr 8003 0), (6, .int .i64 (j2 : Int))]) (fun j2 => fun sg => match sg with | () => [(8002, .cells 40 [.lst false (ml eGRouter a.Routers), .lst false (ml eGLink a.Links)]), (8003, .cells 40 [.lst false (ml eGRouter b.Routers), .lst false (ml eGLink b.Links)])]) ?_ ?_ ?_
  · exact Weak.go [] [] (by kernel_rfl)
  · skip
    rintro j2 e2 Z2 ⟨⟩ hj2 hx2 hm
    rw [hB2] at hm
    refine A.seq ?_
    refine A.RS W0 [] [(3, hto (lnE eGLink a.Links))] [(2, .ptr 8002 0), (3, .ptr 8003 0), (6, .int .i64 (j2 : Int)), (45, .bool (decide ((j2 : Int) < (a.Links.length:Int))))] [(8002, .cells 40 [.lst false (ml eGRouter a.Routers), .lst false (ml eGLink a.Links)]), (8003, .cells 40 [.lst false (ml eGRouter b.Routers), .lst false (ml eGLink b.Links)])] (by kernel_rfl) ?_
    refine A.cT rfl (ltT hx2) ?_
    refine A.skip ?_
    show acode _ _ _ _ _
    refine A.seq ?_
    refine A.block ?_
    obtain ⟨e_2, h2, hm⟩ := bnd_some hm
    refine A.RS W0 [] [(3, hix (ix eGLink (elO_nat hx2))), (8, hix (ix eGLink h2)), (10, .sq true 64 (.agg [.int .i64 e2.A, .int .i64 e2.B, .int .i64 e2.CostA, .int .i64 e2.CostB, .int .i64 e2.Capacity]) (.agg [.int .i64 e_2.A, .int .i64 e_2.B, .int .i64 e_2.CostA, .int .i64 e_2.CostB, .int .i64 e_2.Capacity]) (!(eqGLink e2 e_2)) (fun x y w => eq64_neq x y _ _ _ _ _ _ _ _ _ _ w))] [(2, .ptr 8002 0), (3, .ptr 8003 0), (6, .int .i64 (j2 : Int)), (58, .bool (!(eqGLink e2 e_2)))] [(8002, .cells 40 [.lst false (ml eGRouter a.Routers), .lst false (ml eGLink a.Links)]), (8003, .cells 40 [.lst false (ml eGRouter b.Routers), .lst false (ml eGLink b.Links)])] (by kernel_rfl) ?_
    rcases cs_some hm with ⟨c4, hm⟩ | ⟨c4, hm⟩
    · skip
      refine A.cT rfl c4 ?_
      refine A.RS W0 [] [] [(4, .bool false)] [] (by kernel_rfl) ?_
      refine A.ret ?_
      obtain rfl := some_inj hm
      exact A.fin W0 [] rfl (by kernel_rfl)
    refine A.cF rfl c4 ?_
    refine A.skip ?_
    show acode _ _ _ _ _
    refine A.R W0 [] [(1, hto (inc hx2 hb2))] [(2, .ptr 8002 0), (3, .ptr 8003 0), (6, .int .i64 ((j2 + 1 : Nat) : Int))] [(8002, .cells 40 [.lst false (ml eGRouter a.Routers), .lst false (ml eGLink a.Links)]), (8003, .cells 40 [.lst false (ml eGRouter b.Routers), .lst false (ml eGLink b.Links)])] (by kernel_rfl) ?_
    exact Exists.intro () (And.intro hm (Weak.go [] [] (by kernel_rfl)))
  rintro j2 ⟨⟩ hj2 hl2 hm
  rw [hK2] at hm
  refine A.seq ?_
  refine A.RS W0 [] [(3, hto (lnE eGLink a.Links))] [(2, .ptr 8002 0), (3, .ptr 8003 0), (6, .int .i64 (j2 : Int)), (45, .bool (decide ((j2 : Int) < (a.Links.length:Int))))] [(8002, .cells 40 [.lst false (ml eGRouter a.Routers), .lst false (ml eGLink a.Links)]), (8003, .cells 40 [.lst false (ml eGRouter b.Routers), .lst false (ml eGLink b.Links)])] (by kernel_rfl) ?_
  refine A.cF rfl (ltF hl2) ?_
  refine A.exit ?_
  show acode _ _ _ _ _
  refine A.RS W0 [] [] [(4, .bool true)] [] (by kernel_rfl) ?_
  refine A.ret ?_
  obtain rfl := some_inj hm
  exact A.fin W0 [] rfl (by kernel_rfl)
end Go.Proofs.Ytmcjffllahcclaa
