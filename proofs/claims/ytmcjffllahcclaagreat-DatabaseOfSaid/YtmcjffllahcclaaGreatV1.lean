/- The walks of functions of the program. No condition but those that stand in each. -/
import Derived.Test.YtmcjffllahcclaaGreatDA
namespace Go.Proofs.YtmcjffllahcclaaGreat
open Go
set_option maxRecDepth 100000
set_option linter.all false
theorem m_ref05_cost_ok {n : Int} {r : Bool} (hm : m_ref05_cost n = some r) : RO Tryz.prog 73 [] [.int .i64 n] (.bool r) := by
  refine enterA Tryz.func73 rfl rfl ?_
  unfold m_ref05_cost at hm
  refine A.RS W0 [] [] [(0, .int .i64 n)] [] (by kernel_rfl) ?_
  refine A.mid [(2, .bool ((decide ((1:Int) ≤ n)) && (decide (n ≤ (1000:Int)))))] [] (fun hk => ?_) ?_
  · skip
    rcases tf (decide ((1:Int) ≤ n)) with c1 | c1
    · skip
      exact A.RS W0 [] [(2, hto (bE c1)), (6, hto (andT (q := decide (n ≤ (1000:Int))) c1))] _ _ (by kernel_rfl) hk
    exact A.RS W0 [] [(2, hto (bE c1)), (6, hto (andF (q := decide (n ≤ (1000:Int))) c1))] _ _ (by kernel_rfl) hk
  refine A.ret ?_
  obtain rfl := some_inj hm
  exact A.fin W0 [] rfl (by kernel_rfl)
theorem m_ref05_has_ok {t : GTopology} {ra1 : Int} {r : Bool} (hm : m_ref05_has t ra1 = some r) : RO Tryz.prog 74 [] [.agg [.lst false (ml eGRouter t.Routers), .lst false (ml eGLink t.Links)], .int .i64 ra1] (.bool r) := by
  refine enterA Tryz.func74 rfl rfl ?_
  unfold m_ref05_has at hm
  refine A.RS W0 [] [(0, .al 74002)] [(1, .int .i64 ra1), (2, .ptr 74002 0)] [(74002, .cells 46 [.lst false (ml eGRouter t.Routers), .lst false (ml eGLink t.Links)])] (by kernel_rfl) ?_
  refine A.seq ?_
  refine A.RS W0 [] [] [(1, .int .i64 ra1), (2, .ptr 74002 0), (5, .int .i64 (0:Int))] [(74002, .cells 46 [.lst false (ml eGRouter t.Routers), .lst false (ml eGLink t.Links)])] (by kernel_rfl) ?_
  refine A.block ?_
  refine A.bC 2 0 rfl rfl rfl fun hb1 => ?_
  obtain ⟨B1, K1, hB1, hK1, hm⟩ := forI_some hm
  refine A.lpI (l := t.Routers) (j0 := 0) (B := B1) (K := K1) hm (fun j1 => fun sg => match sg with | () => [(1, .int .i64 ra1), (2, .ptr 74002 0), (5, .int .i64 (j1 : Int))]) (fun j1 => fun sg => match sg with | () => [(74002, .cells 46 [.lst false (ml eGRouter t.Routers), .lst false (ml eGLink t.Links)])]) ?_ ?_ ?_
  · exact Weak.go [] [] (by kernel_rfl)
  · skip
    rintro j1 e1 Z1 ⟨⟩ hj1 hx1 hm
    rw [hB1] at hm
    refine A.seq ?_
    refine A.RS W0 [] [(3, hto (lnE eGRouter t.Routers))] [(1, .int .i64 ra1), (2, .ptr 74002 0), (5, .int .i64 (j1 : Int)), (10, .bool (decide ((j1 : Int) < (t.Routers.length:Int))))] [(74002, .cells 46 [.lst false (ml eGRouter t.Routers), .lst false (ml eGLink t.Links)])] (by kernel_rfl) ?_
    refine A.cT rfl (ltT hx1) ?_
    refine A.skip ?_
    show acode _ _ _ _ _
    refine A.seq ?_
    refine A.block ?_
    refine A.RS W0 [] [(3, hix (ix eGRouter (elO_nat hx1)))] [(1, .int .i64 ra1), (2, .ptr 74002 0), (5, .int .i64 (j1 : Int)), (20, .bool (decide (e1.ID = ra1)))] [(74002, .cells 46 [.lst false (ml eGRouter t.Routers), .lst false (ml eGLink t.Links)])] (by kernel_rfl) ?_
    rcases cs_some hm with ⟨c1, hm⟩ | ⟨c1, hm⟩
    · skip
      refine A.cT rfl c1 ?_
      refine A.RS W0 [] [] [(4, .bool true)] [] (by kernel_rfl) ?_
      refine A.ret ?_
      obtain rfl := some_inj hm
      exact A.fin W0 [] rfl (by kernel_rfl)
    refine A.cF rfl c1 ?_
    refine A.skip ?_
    show acode _ _ _ _ _
    refine A.R W0 [] [(1, hto (inc hx1 hb1))] [(1, .int .i64 ra1), (2, .ptr 74002 0), (5, .int .i64 ((j1 + 1 : Nat) : Int))] [(74002, .cells 46 [.lst false (ml eGRouter t.Routers), .lst false (ml eGLink t.Links)])] (by kernel_rfl) ?_
    exact Exists.intro () (And.intro hm (Weak.go [] [] (by kernel_rfl)))
  rintro j1 ⟨⟩ hj1 hl1 hm
  rw [hK1] at hm
  refine A.seq ?_
  refine A.RS W0 [] [(3, hto (lnE eGRouter t.Routers))] [(1, .int .i64 ra1), (2, .ptr 74002 0), (5, .int .i64 (j1 : Int)), (10, .bool (decide ((j1 : Int) < (t.Routers.length:Int))))] [(74002, .cells 46 [.lst false (ml eGRouter t.Routers), .lst false (ml eGLink t.Links)])] (by kernel_rfl) ?_
  refine A.cF rfl (ltF hl1) ?_
  refine A.exit ?_
  show acode _ _ _ _ _
  refine A.RS W0 [] [] [(4, .bool false)] [] (by kernel_rfl) ?_
  refine A.ret ?_
  obtain rfl := some_inj hm
  exact A.fin W0 [] rfl (by kernel_rfl)
theorem m_ref05_Price_ok {t : GTopology} {froma1 : Int} {toa2 : Int} {r : Int × Bool} (hm : m_ref05_Price t froma1 toa2 = some r) : RO Tryz.prog 49 [] [.agg [.lst false (ml eGRouter t.Routers), .lst false (ml eGLink t.Links)], .int .i64 froma1, .int .i64 toa2] (.tup [.int .i64 r.1, .bool r.2]) := by
  refine enterA Tryz.func49 rfl rfl ?_
  unfold m_ref05_Price at hm
  refine A.RS W0 [] [(0, .al 49003)] [(1, .int .i64 froma1), (2, .int .i64 toa2), (3, .ptr 49003 0)] [(49003, .cells 46 [.lst false (ml eGRouter t.Routers), .lst false (ml eGLink t.Links)])] (by kernel_rfl) ?_
  refine A.seq ?_
  refine A.RS W0 [] [] [(1, .int .i64 froma1), (2, .int .i64 toa2), (3, .ptr 49003 0), (8, .int .i64 (0:Int))] [(49003, .cells 46 [.lst false (ml eGRouter t.Routers), .lst false (ml eGLink t.Links)])] (by kernel_rfl) ?_
  refine A.block ?_
  refine A.bC 3 1 rfl rfl rfl fun hb1 => ?_
  obtain ⟨B1, K1, hB1, hK1, hm⟩ := forI_some hm
  refine A.lpI (l := t.Links) (j0 := 0) (B := B1) (K := K1) hm (fun j1 => fun sg => match sg with | () => [(1, .int .i64 froma1), (2, .int .i64 toa2), (3, .ptr 49003 0), (8, .int .i64 (j1 : Int))]) (fun j1 => fun sg => match sg with | () => [(49003, .cells 46 [.lst false (ml eGRouter t.Routers), .lst false (ml eGLink t.Links)])]) ?_ ?_ ?_
  · exact Weak.go [] [] (by kernel_rfl)
  · skip
    rintro j1 e1 Z1 ⟨⟩ hj1 hx1 hm
    rw [hB1] at hm
    refine A.seq ?_
    refine A.RS W0 [] [(3, hto (lnE eGLink t.Links))] [(1, .int .i64 froma1), (2, .int .i64 toa2), (3, .ptr 49003 0), (8, .int .i64 (j1 : Int)), (14, .bool (decide ((j1 : Int) < (t.Links.length:Int))))] [(49003, .cells 46 [.lst false (ml eGRouter t.Routers), .lst false (ml eGLink t.Links)])] (by kernel_rfl) ?_
    refine A.cT rfl (ltT hx1) ?_
    refine A.skip ?_
    show acode _ _ _ _ _
    refine A.seq ?_
    refine A.block ?_
    refine A.RS W0 [] [(3, hix (ix eGLink (elO_nat hx1))), (5, .al 49009)] [(1, .int .i64 froma1), (2, .int .i64 toa2), (3, .ptr 49003 0), (8, .int .i64 (j1 : Int)), (9, .ptr 49009 0)] [(49003, .cells 46 [.lst false (ml eGRouter t.Routers), .lst false (ml eGLink t.Links)]), (49009, .cells 84 [.int .i64 e1.A, .int .i64 e1.B, .int .i64 e1.CostA, .int .i64 e1.CostB, .int .i64 e1.Capacity])] (by kernel_rfl) ?_
    refine A.seq ?_
    refine A.mid [(1, .int .i64 froma1), (2, .int .i64 toa2), (3, .ptr 49003 0), (8, .int .i64 (j1 : Int)), (9, .ptr 49009 0), (31, .bool ((decide (e1.A = froma1)) && (decide (e1.B = toa2))))] [(49003, .cells 46 [.lst false (ml eGRouter t.Routers), .lst false (ml eGLink t.Links)]), (49009, .cells 84 [.int .i64 e1.A, .int .i64 e1.B, .int .i64 e1.CostA, .int .i64 e1.CostB, .int .i64 e1.Capacity])] (fun hk => ?_) ?_
    · skip
      rcases tf (decide (e1.A = froma1)) with c1 | c1
      · skip
        exact A.RS W0 [] [(4, hto (bE c1)), (9, hto (andT (q := decide (e1.B = toa2)) c1))] _ _ (by kernel_rfl) hk
      exact A.RS W0 [] [(4, hto (bE c1)), (9, hto (andF (q := decide (e1.B = toa2)) c1))] _ _ (by kernel_rfl) hk
    rcases cs_some hm with ⟨c2, hm⟩ | ⟨c2, hm⟩
    · skip
      refine A.cT rfl c2 ?_
      refine A.RS W0 [] [] [(6, .int .i64 e1.CostA), (7, .bool true)] [] (by kernel_rfl) ?_
      refine A.ret ?_
      obtain rfl := some_inj hm
      exact A.fin W0 [] rfl (by kernel_rfl)
    refine A.cF rfl c2 ?_
    refine A.skip ?_
    show acode _ _ _ _ _
    refine A.mid [(1, .int .i64 froma1), (2, .int .i64 toa2), (3, .ptr 49003 0), (8, .int .i64 (j1 : Int)), (9, .ptr 49009 0), (43, .bool ((decide (e1.B = froma1)) && (decide (e1.A = toa2))))] [(49003, .cells 46 [.lst false (ml eGRouter t.Routers), .lst false (ml eGLink t.Links)]), (49009, .cells 84 [.int .i64 e1.A, .int .i64 e1.B, .int .i64 e1.CostA, .int .i64 e1.CostB, .int .i64 e1.Capacity])] (fun hk => ?_) ?_
    · skip
      rcases tf (decide (e1.B = froma1)) with c3 | c3
      · skip
        exact A.RS W0 [] [(4, hto (bE c3)), (9, hto (andT (q := decide (e1.A = toa2)) c3))] _ _ (by kernel_rfl) hk
      exact A.RS W0 [] [(4, hto (bE c3)), (9, hto (andF (q := decide (e1.A = toa2)) c3))] _ _ (by kernel_rfl) hk
    rcases cs_some hm with ⟨c4, hm⟩ | ⟨c4, hm⟩
    · skip
      refine A.cT rfl c4 ?_
      refine A.RS W0 [] [] [(6, .int .i64 e1.CostB), (7, .bool true)] [] (by kernel_rfl) ?_
      refine A.ret ?_
      obtain rfl := some_inj hm
      exact A.fin W0 [] rfl (by kernel_rfl)
    refine A.cF rfl c4 ?_
    refine A.skip ?_
    show acode _ _ _ _ _
    refine A.R W0 [] [(1, hto (inc hx1 hb1))] [(1, .int .i64 froma1), (2, .int .i64 toa2), (3, .ptr 49003 0), (8, .int .i64 ((j1 + 1 : Nat) : Int))] [(49003, .cells 46 [.lst false (ml eGRouter t.Routers), .lst false (ml eGLink t.Links)])] (by kernel_rfl) ?_
    exact Exists.intro () (And.intro hm (Weak.go [] [] (by kernel_rfl)))
  rintro j1 ⟨⟩ hj1 hl1 hm
  rw [hK1] at hm
  refine A.seq ?_
  refine A.RS W0 [] [(3, hto (lnE eGLink t.Links))] [(1, .int .i64 froma1), (2, .int .i64 toa2), (3, .ptr 49003 0), (8, .int .i64 (j1 : Int)), (14, .bool (decide ((j1 : Int) < (t.Links.length:Int))))] [(49003, .cells 46 [.lst false (ml eGRouter t.Routers), .lst false (ml eGLink t.Links)])] (by kernel_rfl) ?_
  refine A.cF rfl (ltF hl1) ?_
  refine A.exit ?_
  show acode _ _ _ _ _
  refine A.RS W0 [] [] [(6, .int .i64 (0:Int)), (7, .bool false)] [] (by kernel_rfl) ?_
  refine A.ret ?_
  obtain rfl := some_inj hm
  exact A.fin W0 [] rfl (by kernel_rfl)
theorem m_ref05_Check_ok {t : GTopology} {r : Int} (hm : m_ref05_Check t = some r) : RO Tryz.prog 45 [] [.agg [.lst false (ml eGRouter t.Routers), .lst false (ml eGLink t.Links)]] (.int .i64 r) := by
  refine enterA Tryz.func45 rfl rfl ?_
  unfold m_ref05_Check at hm
  refine A.RS W0 [] [(0, .al 45001)] [(1, .ptr 45001 0)] [(45001, .cells 46 [.lst false (ml eGRouter t.Routers), .lst false (ml eGLink t.Links)])] (by kernel_rfl) ?_
  refine A.seq ?_
  refine A.mid [(1, .ptr 45001 0), (21, .bool ((decide ((24:Int) < (t.Routers.length:Int))) || (decide ((60:Int) < (t.Links.length:Int)))))] [(45001, .cells 46 [.lst false (ml eGRouter t.Routers), .lst false (ml eGLink t.Links)])] (fun hk => ?_) ?_
  · skip
    rcases tf (decide ((24:Int) < (t.Routers.length:Int))) with c1 | c1
    · skip
      exact A.RS W0 [] [(2, hto (lnE eGRouter t.Routers)), (4, hto (bE c1)), (9, hto (orT (q := decide ((60:Int) < (t.Links.length:Int))) c1))] _ _ (by kernel_rfl) hk
    exact A.RS W0 [] [(2, hto (lnE eGRouter t.Routers)), (4, hto (bE c1)), (7, hto (lnE eGLink t.Links)), (9, hto (orF (q := decide ((60:Int) < (t.Links.length:Int))) c1))] _ _ (by kernel_rfl) hk
  rcases cs_some hm with ⟨c2, hm⟩ | ⟨c2, hm⟩
  · skip
    refine A.cT rfl c2 ?_
    refine A.RS W0 [] [] [(2, .int .i64 (3:Int))] [] (by kernel_rfl) ?_
    refine A.ret ?_
    obtain rfl := some_inj hm
    exact A.fin W0 [] rfl (by kernel_rfl)
  refine A.cF rfl c2 ?_
  refine A.skip ?_
  show acode _ _ _ _ _
  refine A.seq ?_
  refine A.RS W0 [] [] [(1, .ptr 45001 0), (3, .int .i64 (0:Int))] [(45001, .cells 46 [.lst false (ml eGRouter t.Routers), .lst false (ml eGLink t.Links)])] (by kernel_rfl) ?_
  refine A.block ?_
  refine A.bC 1 0 rfl rfl rfl fun hb1 => ?_
  obtain ⟨B1, K1, hB1, hK1, hm⟩ := forI_some hm
  refine A.lpI (l := t.Routers) (j0 := 0) (B := B1) (K := K1) hm (fun j1 => fun sg => match sg with | () => [(1, .ptr 45001 0), (3, .int .i64 (j1 : Int))]) (fun j1 => fun sg => match sg with | () => [(45001, .cells 46 [.lst false (ml eGRouter t.Routers), .lst false (ml eGLink t.Links)])]) ?_ ?_ ?_
  · exact Weak.go [] [] (by kernel_rfl)
  · skip
    rintro j1 e1 Z1 ⟨⟩ hj1 hx1 hm
    rw [hB1] at hm
    refine A.seq ?_
    refine A.RS W0 [] [(3, hto (lnE eGRouter t.Routers))] [(1, .ptr 45001 0), (3, .int .i64 (j1 : Int)), (26, .bool (decide ((j1 : Int) < (t.Routers.length:Int))))] [(45001, .cells 46 [.lst false (ml eGRouter t.Routers), .lst false (ml eGLink t.Links)])] (by kernel_rfl) ?_
    refine A.cT rfl (ltT hx1) ?_
    refine A.skip ?_
    show acode _ _ _ _ _
    refine A.seq ?_
    refine A.block ?_
    refine A.mid [(1, .ptr 45001 0), (3, .int .i64 (j1 : Int)), (44, .bool ((decide (e1.ID < (1:Int))) || (decide ((99:Int) < e1.ID))))] [(45001, .cells 46 [.lst false (ml eGRouter t.Routers), .lst false (ml eGLink t.Links)])] (fun hk => ?_) ?_
    · skip
      rcases tf (decide (e1.ID < (1:Int))) with c3 | c3
      · skip
        exact A.RS W0 [] [(3, hix (ix eGRouter (elO_nat hx1))), (7, hto (bE c3)), (15, hto (orT (q := decide ((99:Int) < e1.ID)) c3))] _ _ (by kernel_rfl) hk
      exact A.RS W0 [] [(3, hix (ix eGRouter (elO_nat hx1))), (7, hto (bE c3)), (11, hix (ix eGRouter (elO_nat hx1))), (15, hto (orF (q := decide ((99:Int) < e1.ID)) c3))] _ _ (by kernel_rfl) hk
    rcases cs_some hm with ⟨c4, hm⟩ | ⟨c4, hm⟩
    · skip
      refine A.cT rfl c4 ?_
      refine A.RS W0 [] [] [(2, .int .i64 (2:Int))] [] (by kernel_rfl) ?_
      refine A.ret ?_
      obtain rfl := some_inj hm
      exact A.fin W0 [] rfl (by kernel_rfl)
    refine A.cF rfl c4 ?_
    refine A.skip ?_
    show acode _ _ _ _ _
    refine A.R W0 [] [(1, hto (inc hx1 hb1))] [(1, .ptr 45001 0), (3, .int .i64 ((j1 + 1 : Nat) : Int))] [(45001, .cells 46 [.lst false (ml eGRouter t.Routers), .lst false (ml eGLink t.Links)])] (by kernel_rfl) ?_
    exact Exists.intro () (And.intro hm (Weak.go [] [] (by kernel_rfl)))
  rintro j1 ⟨⟩ hj1 hl1 hm
  rw [hK1] at hm
  refine A.seq ?_
  refine A.RS W0 [] [(3, hto (lnE eGRouter t.Routers))] [(1, .ptr 45001 0), (3, .int .i64 (j1 : Int)), (26, .bool (decide ((j1 : Int) < (t.Routers.length:Int))))] [(45001, .cells 46 [.lst false (ml eGRouter t.Routers), .lst false (ml eGLink t.Links)])] (by kernel_rfl) ?_
  refine A.cF rfl (ltF hl1) ?_
  refine A.exit ?_
  show acode _ _ _ _ _
  refine A.seq ?_
  refine A.RS W0 [] [] [(1, .ptr 45001 0), (4, .int .i64 (1:Int))] [(45001, .cells 46 [.lst false (ml eGRouter t.Routers), .lst false (ml eGLink t.Links)])] (by kernel_rfl) ?_
  refine A.block ?_
  refine A.bC 1 0 rfl rfl rfl fun hb2 => ?_
  obtain ⟨B2, K2, hB2, hK2, hm⟩ := forI_some hm
  refine A.lpI (l := t.Routers) (j0 := 1) (B := B2) (K := K2) hm (fun j2 => fun sg => match sg with | () => [(1, .ptr 45001 0), (4, .int .i64 (j2 : Int))]) (fun j2 => fun sg => match sg with | () => [(45001, .cells 46 [.lst false (ml eGRouter t.Routers), .lst false (ml eGLink t.Links)])]) ?_ ?_ ?_
  · exact Weak.go [] [] (by kernel_rfl)
  · skip
    rintro j2 e2 Z2 ⟨⟩ hj2 hx2 hm
    rw [hB2] at hm
    refine A.seq ?_
    refine A.RS W0 [] [(3, hto (lnE eGRouter t.Routers))] [(1, .ptr 45001 0), (4, .int .i64 (j2 : Int)), (49, .bool (decide ((j2 : Int) < (t.Routers.length:Int))))] [(45001, .cells 46 [.lst false (ml eGRouter t.Routers), .lst false (ml eGLink t.Links)])] (by kernel_rfl) ?_
    refine A.cT rfl (ltT hx2) ?_
    refine A.skip ?_
    show acode _ _ _ _ _
    refine A.seq ?_
    refine A.block ?_
    obtain ⟨e_1, h1, hm⟩ := bnd_some hm
    refine A.RS W0 [] [(4, hix (ix eGRouter h1)), (10, hix (ix eGRouter (elO_nat hx2)))] [(1, .ptr 45001 0), (4, .int .i64 (j2 : Int)), (65, .bool (decide (e2.ID ≤ e_1.ID)))] [(45001, .cells 46 [.lst false (ml eGRouter t.Routers), .lst false (ml eGLink t.Links)])] (by kernel_rfl) ?_
    rcases cs_some hm with ⟨c5, hm⟩ | ⟨c5, hm⟩
    · skip
      refine A.cT rfl c5 ?_
      refine A.RS W0 [] [] [(2, .int .i64 (25:Int))] [] (by kernel_rfl) ?_
      refine A.ret ?_
      obtain rfl := some_inj hm
      exact A.fin W0 [] rfl (by kernel_rfl)
    refine A.cF rfl c5 ?_
    refine A.skip ?_
    show acode _ _ _ _ _
    refine A.R W0 [] [(1, hto (inc hx2 hb2))] [(1, .ptr 45001 0), (4, .int .i64 ((j2 + 1 : Nat) : Int))] [(45001, .cells 46 [.lst false (ml eGRouter t.Routers), .lst false (ml eGLink t.Links)])] (by kernel_rfl) ?_
    exact Exists.intro () (And.intro hm (Weak.go [] [] (by kernel_rfl)))
  rintro j2 ⟨⟩ hj2 hl2 hm
  rw [hK2] at hm
  refine A.seq ?_
  refine A.RS W0 [] [(3, hto (lnE eGRouter t.Routers))] [(1, .ptr 45001 0), (4, .int .i64 (j2 : Int)), (49, .bool (decide ((j2 : Int) < (t.Routers.length:Int))))] [(45001, .cells 46 [.lst false (ml eGRouter t.Routers), .lst false (ml eGLink t.Links)])] (by kernel_rfl) ?_
  refine A.cF rfl (ltF hl2) ?_
  refine A.exit ?_
  show acode _ _ _ _ _
  refine A.seq ?_
  refine A.RS W0 [] [] [(1, .ptr 45001 0), (5, .int .i64 (0:Int))] [(45001, .cells 46 [.lst false (ml eGRouter t.Routers), .lst false (ml eGLink t.Links)])] (by kernel_rfl) ?_
  refine A.block ?_
  refine A.bC 1 1 rfl rfl rfl fun hb3 => ?_
  obtain ⟨B3, K3, hB3, hK3, hm⟩ := forI_some hm
  refine A.lpI (l := t.Links) (j0 := 0) (B := B3) (K := K3) hm (fun j3 => fun sg => match sg with | () => [(1, .ptr 45001 0), (5, .int .i64 (j3 : Int))]) (fun j3 => fun sg => match sg with | () => [(45001, .cells 46 [.lst false (ml eGRouter t.Routers), .lst false (ml eGLink t.Links)])]) ?_ ?_ ?_
  · exact Weak.go [] [] (by kernel_rfl)
  · skip
    rintro j3 e3 Z3 ⟨⟩ hj3 hx3 hm
    rw [hB3] at hm
    refine A.seq ?_
    refine A.RS W0 [] [(3, hto (lnE eGLink t.Links))] [(1, .ptr 45001 0), (5, .int .i64 (j3 : Int)), (70, .bool (decide ((j3 : Int) < (t.Links.length:Int))))] [(45001, .cells 46 [.lst false (ml eGRouter t.Routers), .lst false (ml eGLink t.Links)])] (by kernel_rfl) ?_
    refine A.cT rfl (ltT hx3) ?_
    refine A.skip ?_
    show acode _ _ _ _ _
    refine A.seq ?_
    refine A.block ?_
    refine A.RS W0 [] [(3, hix (ix eGLink (elO_nat hx3))), (5, .al 45006)] [(1, .ptr 45001 0), (5, .int .i64 (j3 : Int)), (6, .ptr 45006 0)] [(45001, .cells 46 [.lst false (ml eGRouter t.Routers), .lst false (ml eGLink t.Links)]), (45006, .cells 84 [.int .i64 e3.A, .int .i64 e3.B, .int .i64 e3.CostA, .int .i64 e3.CostB, .int .i64 e3.Capacity])] (by kernel_rfl) ?_
    obtain ⟨J1, hJ1, hm⟩ := jn_some hm
    refine A.J (J := J1) (r := r) (fun v_1 => [(1, .ptr 45001 0), (5, .int .i64 (j3 : Int)), (97, .bool v_1)]) (fun v_1 => [(45001, .cells 46 [.lst false (ml eGRouter t.Routers), .lst false (ml eGLink t.Links)])]) ?_ ?_
    · skip
      obtain ⟨vx_1, h2, hm⟩ := bnd_some hm
      rcases cs_some hm with ⟨c6, hm⟩ | ⟨c6, hm⟩
      · skip
        refine A.R W0 [] [(2, hro (m_ref05_cost_ok h2) ck73), (4, hto (bE c6))] [(1, .ptr 45001 0), (5, .int .i64 (j3 : Int)), (97, .bool true)] [(45001, .cells 46 [.lst false (ml eGRouter t.Routers), .lst false (ml eGLink t.Links)])] (by kernel_rfl) ?_
        exact Exists.intro true (And.intro hm (Weak.go [] [] (by kernel_rfl)))
      obtain ⟨vx_2, h3, hm⟩ := bnd_some hm
      rcases cs_some hm with ⟨c7, hm⟩ | ⟨c7, hm⟩
      · skip
        refine A.R W0 [] [(2, hro (m_ref05_cost_ok h2) ck73), (4, hto (bE c6)), (7, hro (m_ref05_cost_ok h3) ck73), (10, hto (bE c7))] [(1, .ptr 45001 0), (5, .int .i64 (j3 : Int)), (97, .bool true)] [(45001, .cells 46 [.lst false (ml eGRouter t.Routers), .lst false (ml eGLink t.Links)])] (by kernel_rfl) ?_
        exact Exists.intro true (And.intro hm (Weak.go [] [] (by kernel_rfl)))
      rcases cs_some hm with ⟨c8, hm⟩ | ⟨c8, hm⟩
      · skip
        refine A.R W0 [] [(2, hro (m_ref05_cost_ok h2) ck73), (4, hto (bE c6)), (7, hro (m_ref05_cost_ok h3) ck73), (10, hto (bE c7)), (15, hto (bE c8))] [(1, .ptr 45001 0), (5, .int .i64 (j3 : Int)), (97, .bool true)] [(45001, .cells 46 [.lst false (ml eGRouter t.Routers), .lst false (ml eGLink t.Links)])] (by kernel_rfl) ?_
        exact Exists.intro true (And.intro hm (Weak.go [] [] (by kernel_rfl)))
      refine A.R W0 [] [(2, hro (m_ref05_cost_ok h2) ck73), (4, hto (bE c6)), (7, hro (m_ref05_cost_ok h3) ck73), (10, hto (bE c7)), (15, hto (bE c8))] [(1, .ptr 45001 0), (5, .int .i64 (j3 : Int)), (97, .bool (decide ((1000:Int) < e3.Capacity)))] [(45001, .cells 46 [.lst false (ml eGRouter t.Routers), .lst false (ml eGLink t.Links)])] (by kernel_rfl) ?_
      exact Exists.intro (decide ((1000:Int) < e3.Capacity)) (And.intro hm (Weak.go [] [] (by kernel_rfl)))
    rintro v_1 hm
    rw [hJ1] at hm
    rcases cs_some hm with ⟨c9, hm⟩ | ⟨c9, hm⟩
    · skip
      refine A.cT rfl c9 ?_
      refine A.RS W0 [] [] [(2, .int .i64 (2:Int))] [] (by kernel_rfl) ?_
      refine A.ret ?_
      obtain rfl := some_inj hm
      exact A.fin W0 [] rfl (by kernel_rfl)
    refine A.cF rfl c9 ?_
    refine A.skip ?_
    show acode _ _ _ _ _
    refine A.R W0 [] [(1, hto (inc hx3 hb3))] [(1, .ptr 45001 0), (5, .int .i64 ((j3 + 1 : Nat) : Int))] [(45001, .cells 46 [.lst false (ml eGRouter t.Routers), .lst false (ml eGLink t.Links)])] (by kernel_rfl) ?_
    exact Exists.intro () (And.intro hm (Weak.go [] [] (by kernel_rfl)))
  rintro j3 ⟨⟩ hj3 hl3 hm
  rw [hK3] at hm
  refine A.seq ?_
  refine A.RS W0 [] [(3, hto (lnE eGLink t.Links))] [(1, .ptr 45001 0), (5, .int .i64 (j3 : Int)), (70, .bool (decide ((j3 : Int) < (t.Links.length:Int))))] [(45001, .cells 46 [.lst false (ml eGRouter t.Routers), .lst false (ml eGLink t.Links)])] (by kernel_rfl) ?_
  refine A.cF rfl (ltF hl3) ?_
  refine A.exit ?_
  show acode _ _ _ _ _
  refine A.seq ?_
  refine A.RS W0 [] [] [(1, .ptr 45001 0), (7, .int .i64 (0:Int))] [(45001, .cells 46 [.lst false (ml eGRouter t.Routers), .lst false (ml eGLink t.Links)])] (by kernel_rfl) ?_
  refine A.block ?_
  refine A.bC 1 1 rfl rfl rfl fun hb4 => ?_
  obtain ⟨B4, K4, hB4, hK4, hm⟩ := forI_some hm
  refine A.lpI (l := t.Links) (j0 := 0) (B := B4) (K := K4) hm (fun j4 => fun sg => match sg with | () => [(1, .ptr 45001 0), (7, .int .i64 (j4 : Int))]) (fun j4 => fun sg => match sg with | () => [(45001, .cells 46 [.lst false (ml eGRouter t.Routers), .lst false (ml eGLink t.Links)])]) ?_ ?_ ?_
  · exact Weak.go [] [] (by kernel_rfl)
  · skip
    rintro j4 e4 Z4 ⟨⟩ hj4 hx4 hm
    rw [hB4] at hm
    refine A.seq ?_
    refine A.RS W0 [] [(3, hto (lnE eGLink t.Links))] [(1, .ptr 45001 0), (7, .int .i64 (j4 : Int)), (102, .bool (decide ((j4 : Int) < (t.Links.length:Int))))] [(45001, .cells 46 [.lst false (ml eGRouter t.Routers), .lst false (ml eGLink t.Links)])] (by kernel_rfl) ?_
    refine A.cT rfl (ltT hx4) ?_
    refine A.skip ?_
    show acode _ _ _ _ _
    refine A.seq ?_
    refine A.block ?_
    obtain ⟨J2, hJ2, hm⟩ := jn_some hm
    refine A.J (J := J2) (r := r) (fun v_2 => [(1, .ptr 45001 0), (7, .int .i64 (j4 : Int)), (124, .bool v_2)]) (fun v_2 => [(45001, .cells 46 [.lst false (ml eGRouter t.Routers), .lst false (ml eGLink t.Links)])]) ?_ ?_
    · skip
      obtain ⟨vx_3, h4, hm⟩ := bnd_some hm
      rcases cs_some hm with ⟨c10, hm⟩ | ⟨c10, hm⟩
      · skip
        refine A.R W0 [] [(4, hix (ix eGLink (elO_nat hx4))), (7, hro (m_ref05_has_ok h4) ck74), (9, hto (bE c10))] [(1, .ptr 45001 0), (7, .int .i64 (j4 : Int)), (124, .bool true)] [(45001, .cells 46 [.lst false (ml eGRouter t.Routers), .lst false (ml eGLink t.Links)])] (by kernel_rfl) ?_
        exact Exists.intro true (And.intro hm (Weak.go [] [] (by kernel_rfl)))
      obtain ⟨vx_4, h5, hm⟩ := bnd_some hm
      refine A.R W0 [] [(4, hix (ix eGLink (elO_nat hx4))), (7, hro (m_ref05_has_ok h4) ck74), (9, hto (bE c10)), (14, hix (ix eGLink (elO_nat hx4))), (17, hro (m_ref05_has_ok h5) ck74)] [(1, .ptr 45001 0), (7, .int .i64 (j4 : Int)), (124, .bool (!vx_4))] [(45001, .cells 46 [.lst false (ml eGRouter t.Routers), .lst false (ml eGLink t.Links)])] (by kernel_rfl) ?_
      exact Exists.intro (!vx_4) (And.intro hm (Weak.go [] [] (by kernel_rfl)))
    rintro v_2 hm
    rw [hJ2] at hm
    rcases cs_some hm with ⟨c11, hm⟩ | ⟨c11, hm⟩
    · skip
      refine A.cT rfl c11 ?_
      refine A.RS W0 [] [] [(2, .int .i64 (4:Int))] [] (by kernel_rfl) ?_
      refine A.ret ?_
      obtain rfl := some_inj hm
      exact A.fin W0 [] rfl (by kernel_rfl)
    refine A.cF rfl c11 ?_
    refine A.skip ?_
    show acode _ _ _ _ _
    refine A.R W0 [] [(1, hto (inc hx4 hb4))] [(1, .ptr 45001 0), (7, .int .i64 ((j4 + 1 : Nat) : Int))] [(45001, .cells 46 [.lst false (ml eGRouter t.Routers), .lst false (ml eGLink t.Links)])] (by kernel_rfl) ?_
    exact Exists.intro () (And.intro hm (Weak.go [] [] (by kernel_rfl)))
  rintro j4 ⟨⟩ hj4 hl4 hm
  rw [hK4] at hm
  refine A.seq ?_
  refine A.RS W0 [] [(3, hto (lnE eGLink t.Links))] [(1, .ptr 45001 0), (7, .int .i64 (j4 : Int)), (102, .bool (decide ((j4 : Int) < (t.Links.length:Int))))] [(45001, .cells 46 [.lst false (ml eGRouter t.Routers), .lst false (ml eGLink t.Links)])] (by kernel_rfl) ?_
  refine A.cF rfl (ltF hl4) ?_
  refine A.exit ?_
  show acode _ _ _ _ _
  refine A.seq ?_
  refine A.RS W0 [] [] [(1, .ptr 45001 0), (8, .int .i64 (0:Int))] [(45001, .cells 46 [.lst false (ml eGRouter t.Routers), .lst false (ml eGLink t.Links)])] (by kernel_rfl) ?_
  refine A.block ?_
  refine A.bC 1 1 rfl rfl rfl fun hb5 => ?_
  obtain ⟨B5, K5, hB5, hK5, hm⟩ := forI_some hm
  refine A.lpI (l := t.Links) (j0 := 0) (B := B5) (K := K5) hm (fun j5 => fun sg => match sg with | () => [(1, .ptr 45001 0), (8, .int .i64 (j5 : Int))]) (fun j5 => fun sg => match sg with | () => [(45001, .cells 46 [.lst false (ml eGRouter t.Routers), .lst false (ml eGLink t.Links)])]) ?_ ?_ ?_
  · exact Weak.go [] [] (by kernel_rfl)
  · skip
    rintro j5 e5 Z5 ⟨⟩ hj5 hx5 hm
    rw [hB5] at hm
    refine A.seq ?_
    refine A.RS W0 [] [(3, hto (lnE eGLink t.Links))] [(1, .ptr 45001 0), (8, .int .i64 (j5 : Int)), (129, .bool (decide ((j5 : Int) < (t.Links.length:Int))))] [(45001, .cells 46 [.lst false (ml eGRouter t.Routers), .lst false (ml eGLink t.Links)])] (by kernel_rfl) ?_
    refine A.cT rfl (ltT hx5) ?_
    refine A.skip ?_
    show acode _ _ _ _ _
    refine A.seq ?_
    refine A.block ?_
    refine A.RS W0 [] [(3, hix (ix eGLink (elO_nat hx5))), (9, hix (ix eGLink (elO_nat hx5)))] [(1, .ptr 45001 0), (8, .int .i64 (j5 : Int)), (144, .bool (decide (e5.B ≤ e5.A)))] [(45001, .cells 46 [.lst false (ml eGRouter t.Routers), .lst false (ml eGLink t.Links)])] (by kernel_rfl) ?_
    rcases cs_some hm with ⟨c12, hm⟩ | ⟨c12, hm⟩
    · skip
      refine A.cT rfl c12 ?_
      refine A.RS W0 [] [] [(2, .int .i64 (8:Int))] [] (by kernel_rfl) ?_
      refine A.ret ?_
      obtain rfl := some_inj hm
      exact A.fin W0 [] rfl (by kernel_rfl)
    refine A.cF rfl c12 ?_
    refine A.skip ?_
    show acode _ _ _ _ _
    refine A.R W0 [] [(1, hto (inc hx5 hb5))] [(1, .ptr 45001 0), (8, .int .i64 ((j5 + 1 : Nat) : Int))] [(45001, .cells 46 [.lst false (ml eGRouter t.Routers), .lst false (ml eGLink t.Links)])] (by kernel_rfl) ?_
    exact Exists.intro () (And.intro hm (Weak.go [] [] (by kernel_rfl)))
  rintro j5 ⟨⟩ hj5 hl5 hm
  rw [hK5] at hm
  refine A.seq ?_
  refine A.RS W0 [] [(3, hto (lnE eGLink t.Links))] [(1, .ptr 45001 0), (8, .int .i64 (j5 : Int)), (129, .bool (decide ((j5 : Int) < (t.Links.length:Int))))] [(45001, .cells 46 [.lst false (ml eGRouter t.Routers), .lst false (ml eGLink t.Links)])] (by kernel_rfl) ?_
  refine A.cF rfl (ltF hl5) ?_
  refine A.exit ?_
  show acode _ _ _ _ _
  refine A.seq ?_
  refine A.RS W0 [] [] [(1, .ptr 45001 0), (9, .int .i64 (1:Int))] [(45001, .cells 46 [.lst false (ml eGRouter t.Routers), .lst false (ml eGLink t.Links)])] (by kernel_rfl) ?_
  refine A.block ?_
  refine A.bC 1 1 rfl rfl rfl fun hb6 => ?_
  obtain ⟨B6, K6, hB6, hK6, hm⟩ := forI_some hm
  refine A.lpI (l := t.Links) (j0 := 1) (B := B6) (K := K6) hm (fun j6 => fun sg => match sg with | () => [(1, .ptr 45001 0), (9, .int .i64 (j6 : Int))]) (fun j6 => fun sg => match sg with | () => [(45001, .cells 46 [.lst false (ml eGRouter t.Routers), .lst false (ml eGLink t.Links)])]) ?_ ?_ ?_
  · exact Weak.go [] [] (by kernel_rfl)
  · skip
    rintro j6 e6 Z6 ⟨⟩ hj6 hx6 hm
    rw [hB6] at hm
    refine A.seq ?_
    refine A.RS W0 [] [(3, hto (lnE eGLink t.Links))] [(1, .ptr 45001 0), (9, .int .i64 (j6 : Int)), (149, .bool (decide ((j6 : Int) < (t.Links.length:Int))))] [(45001, .cells 46 [.lst false (ml eGRouter t.Routers), .lst false (ml eGLink t.Links)])] (by kernel_rfl) ?_
    refine A.cT rfl (ltT hx6) ?_
    refine A.skip ?_
    show acode _ _ _ _ _
    refine A.seq ?_
    refine A.block ?_
    obtain ⟨e_2, h6, hm⟩ := bnd_some hm
    refine A.RS W0 [] [(4, hix (ix eGLink h6)), (9, hix (ix eGLink (elO_nat hx6))), (11, .al 45010), (12, .al 45011)] [(1, .ptr 45001 0), (9, .int .i64 (j6 : Int)), (10, .ptr 45010 0), (11, .ptr 45011 0)] [(45001, .cells 46 [.lst false (ml eGRouter t.Routers), .lst false (ml eGLink t.Links)]), (45010, .cells 84 [.int .i64 e_2.A, .int .i64 e_2.B, .int .i64 e_2.CostA, .int .i64 e_2.CostB, .int .i64 e_2.Capacity]), (45011, .cells 84 [.int .i64 e6.A, .int .i64 e6.B, .int .i64 e6.CostA, .int .i64 e6.CostB, .int .i64 e6.Capacity])] (by kernel_rfl) ?_
    refine A.mid [(1, .ptr 45001 0), (9, .int .i64 (j6 : Int)), (181, .bool ((decide (e6.A < e_2.A)) || ((decide (e_2.A = e6.A)) && (decide (e6.B ≤ e_2.B)))))] [(45001, .cells 46 [.lst false (ml eGRouter t.Routers), .lst false (ml eGLink t.Links)])] (fun hk => ?_) ?_
    · skip
      rcases tf (decide (e6.A < e_2.A)) with c13 | c13
      · skip
        exact A.RS W0 [] [(5, hto (bE c13)), (18, hto (orT (q := ((decide (e_2.A = e6.A)) && (decide (e6.B ≤ e_2.B)))) c13))] _ _ (by kernel_rfl) hk
      rcases tf (decide (e_2.A = e6.A)) with c14 | c14
      · skip
        exact A.RS W0 [] [(5, hto (bE c13)), (11, hto (bE c14)), (18, hto ((andT (q := decide (e6.B ≤ e_2.B)) c14).trans (orF (q := ((decide (e_2.A = e6.A)) && (decide (e6.B ≤ e_2.B)))) c13)))] _ _ (by kernel_rfl) hk
      exact A.RS W0 [] [(5, hto (bE c13)), (11, hto (bE c14)), (18, hto ((andF (q := decide (e6.B ≤ e_2.B)) c14).trans (orF (q := ((decide (e_2.A = e6.A)) && (decide (e6.B ≤ e_2.B)))) c13)))] _ _ (by kernel_rfl) hk
    rcases cs_some hm with ⟨c15, hm⟩ | ⟨c15, hm⟩
    · skip
      refine A.cT rfl c15 ?_
      refine A.RS W0 [] [] [(2, .int .i64 (25:Int))] [] (by kernel_rfl) ?_
      refine A.ret ?_
      obtain rfl := some_inj hm
      exact A.fin W0 [] rfl (by kernel_rfl)
    refine A.cF rfl c15 ?_
    refine A.skip ?_
    show acode _ _ _ _ _
    refine A.R W0 [] [(1, hto (inc hx6 hb6))] [(1, .ptr 45001 0), (9, .int .i64 ((j6 + 1 : Nat) : Int))] [(45001, .cells 46 [.lst false (ml eGRouter t.Routers), .lst false (ml eGLink t.Links)])] (by kernel_rfl) ?_
    exact Exists.intro () (And.intro hm (Weak.go [] [] (by kernel_rfl)))
  rintro j6 ⟨⟩ hj6 hl6 hm
  rw [hK6] at hm
  refine A.seq ?_
  refine A.RS W0 [] [(3, hto (lnE eGLink t.Links))] [(1, .ptr 45001 0), (9, .int .i64 (j6 : Int)), (149, .bool (decide ((j6 : Int) < (t.Links.length:Int))))] [(45001, .cells 46 [.lst false (ml eGRouter t.Routers), .lst false (ml eGLink t.Links)])] (by kernel_rfl) ?_
  refine A.cF rfl (ltF hl6) ?_
  refine A.exit ?_
  show acode _ _ _ _ _
  refine A.RS W0 [] [] [(2, .int .i64 (0:Int))] [] (by kernel_rfl) ?_
  refine A.ret ?_
  obtain rfl := some_inj hm
  exact A.fin W0 [] rfl (by kernel_rfl)
theorem m_mk_Cut_ok {xa0 : Int} {n : Int} {r : Int} (hm : m_mk_Cut xa0 n = some r) : RO Tryz.prog 34 [] [.int .i64 xa0, .int .i64 n] (.int .i64 r) := by
  refine enterA Tryz.func34 rfl rfl ?_
  unfold m_mk_Cut at hm
  refine A.RS W0 [] [] [(0, .int .i64 xa0), (1, .int .i64 n)] [] (by kernel_rfl) ?_
  refine A.seq ?_
  refine A.RS W0 [] [] [(0, .int .i64 xa0), (1, .int .i64 n), (6, .bool (decide (n < (1:Int))))] [] (by kernel_rfl) ?_
  rcases cs_some hm with ⟨c1, hm⟩ | ⟨c1, hm⟩
  · skip
    refine A.cT rfl c1 ?_
    refine A.RS W0 [] [] [(4, .int .i64 (0:Int))] [] (by kernel_rfl) ?_
    refine A.ret ?_
    obtain rfl := some_inj hm
    exact A.fin W0 [] rfl (by kernel_rfl)
  refine A.cF rfl c1 ?_
  refine A.skip ?_
  show acode _ _ _ _ _
  obtain ⟨h1, hm⟩ := chk_some hm
  refine A.RS W0 [] [(2, .qr n (of_decide_eq_true h1))] [(0, .int .i64 (Int.tmod xa0 n)), (1, .int .i64 n)] [] (by kernel_rfl) ?_
  obtain ⟨J1, hJ1, hm⟩ := jn_some hm
  refine A.J (J := J1) (r := r) (fun vx_1 => [(0, .int .i64 vx_1)]) (fun vx_1 => []) ?_ ?_
  · skip
    refine A.RS W0 [] [] [(0, .int .i64 (Int.tmod xa0 n)), (1, .int .i64 n), (11, .bool (decide (Int.tmod xa0 n < (0:Int))))] [] (by kernel_rfl) ?_
    rcases cs_some hm with ⟨c2, hm⟩ | ⟨c2, hm⟩
    · skip
      refine A.cT rfl c2 ?_
      refine A.R W0 [] [] [(0, .int .i64 (w64 ((Int.tmod xa0 n) + n)))] [] (by kernel_rfl) ?_
      exact Exists.intro (w64 ((Int.tmod xa0 n) + n)) (And.intro hm (Weak.go [] [] (by kernel_rfl)))
    refine A.cF rfl c2 ?_
    refine A.skip ?_
    exact Exists.intro (Int.tmod xa0 n) (And.intro hm (Weak.go [] [] (by kernel_rfl)))
  rintro vx_1 hm
  rw [hJ1] at hm
  refine A.RS W0 [] [] [(4, .int .i64 vx_1)] [] (by kernel_rfl) ?_
  refine A.ret ?_
  obtain rfl := some_inj hm
  exact A.fin W0 [] rfl (by kernel_rfl)
theorem m_mk_Tape_Raw_ok {t : GTape} {r : Int × GTape} (hm : m_mk_Tape_Raw t = some r) : SCalls Tryz.prog 35 [(900000071, .cells 71 [.lst false (ml eInt t.L), .int .i64 t.At])] [.ptr 900000071 0] (fun a σ' => a = .int .i64 r.1 ∧ σ' = [(900000071, .cells 71 [.lst false (ml eInt r.2.L), .int .i64 r.2.At])]) := by
  refine enterA Tryz.func35 rfl rfl ?_
  unfold m_mk_Tape_Raw at hm
  refine A.RS W0 [] [] [(0, .ptr 900000071 0)] [(900000071, .cells 71 [.lst false (ml eInt t.L), .int .i64 t.At])] (by kernel_rfl) ?_
  refine A.seq ?_
  refine A.RS W0 [] [(8, hto (lnE eInt t.L))] [(0, .ptr 900000071 0), (12, .bool (decide ((t.L.length:Int) ≤ t.At)))] [(900000071, .cells 71 [.lst false (ml eInt t.L), .int .i64 t.At])] (by kernel_rfl) ?_
  rcases cs_some hm with ⟨c1, hm⟩ | ⟨c1, hm⟩
  · skip
    refine A.cT rfl c1 ?_
    refine A.RS W0 [] [] [(2, .int .i64 (0:Int))] [(900000071, .cells 71 [.lst false (ml eInt t.L), .int .i64 t.At])] (by kernel_rfl) ?_
    refine A.ret ?_
    obtain rfl := some_inj hm
    exact A.fin W0 [] rfl (by kernel_rfl)
  refine A.cF rfl c1 ?_
  refine A.skip ?_
  show acode _ _ _ _ _
  refine A.RS W0 [] [] [(0, .ptr 900000071 0)] [(900000071, .cells 71 [.lst false (ml eInt t.L), .int .i64 (w64 (t.At + (1:Int)))])] (by kernel_rfl) ?_
  obtain ⟨e_1, h1, hm⟩ := bnd_some hm
  refine A.RS W0 [] [(9, hix (ix eInt h1))] [(2, .int .i64 e_1)] [(900000071, .cells 71 [.lst false (ml eInt t.L), .int .i64 (w64 (t.At + (1:Int)))])] (by kernel_rfl) ?_
  refine A.ret ?_
  obtain rfl := some_inj hm
  exact A.fin W0 [] rfl (by kernel_rfl)
theorem m_mk_Tape_Next_ok {t : GTape} {n : Int} {r : Int × GTape} (hm : m_mk_Tape_Next t n = some r) : SCalls Tryz.prog 12 [(900000071, .cells 71 [.lst false (ml eInt t.L), .int .i64 t.At])] [.ptr 900000071 0, .int .i64 n] (fun a σ' => a = .int .i64 r.1 ∧ σ' = [(900000071, .cells 71 [.lst false (ml eInt r.2.L), .int .i64 r.2.At])]) := by
  refine enterA Tryz.func12 rfl rfl ?_
  unfold m_mk_Tape_Next at hm
  refine A.RS W0 [] [] [(0, .ptr 900000071 0), (1, .int .i64 n)] [(900000071, .cells 71 [.lst false (ml eInt t.L), .int .i64 t.At])] (by kernel_rfl) ?_
  obtain ⟨vx_1, h1, hm⟩ := bnd_some hm
  obtain ⟨vx_2, h2, hm⟩ := bnd_some hm
  refine A.RS W0 [] [(1, hdc [] (m_mk_Tape_Raw_ok h1) ck35), (3, hro (m_mk_Cut_ok h2) ck34)] [(4, .int .i64 vx_2)] [(900000071, .cells 71 [.lst false (ml eInt vx_1.2.L), .int .i64 vx_1.2.At])] (by kernel_rfl) ?_
  refine A.ret ?_
  obtain rfl := some_inj hm
  exact A.fin W0 [] rfl (by kernel_rfl)
theorem m_mk_Tape_Range_ok {t : GTape} {low : Int} {high : Int} {r : Int × GTape} (hm : m_mk_Tape_Range t low high = some r) : SCalls Tryz.prog 10 [(900000071, .cells 71 [.lst false (ml eInt t.L), .int .i64 t.At])] [.ptr 900000071 0, .int .i64 low, .int .i64 high] (fun a σ' => a = .int .i64 r.1 ∧ σ' = [(900000071, .cells 71 [.lst false (ml eInt r.2.L), .int .i64 r.2.At])]) := by
  refine enterA Tryz.func10 rfl rfl ?_
  unfold m_mk_Tape_Range at hm
  refine A.RS W0 [] [] [(0, .ptr 900000071 0), (1, .int .i64 low), (2, .int .i64 high)] [(900000071, .cells 71 [.lst false (ml eInt t.L), .int .i64 t.At])] (by kernel_rfl) ?_
  obtain ⟨vx_1, h1, hm⟩ := bnd_some hm
  refine A.RS W0 [] [(6, hdc [] (m_mk_Tape_Next_ok h1) ck12)] [(6, .int .i64 (w64 (low + vx_1.1)))] [(900000071, .cells 71 [.lst false (ml eInt vx_1.2.L), .int .i64 vx_1.2.At])] (by kernel_rfl) ?_
  refine A.ret ?_
  obtain rfl := some_inj hm
  exact A.fin W0 [] rfl (by kernel_rfl)
end Go.Proofs.YtmcjffllahcclaaGreat
