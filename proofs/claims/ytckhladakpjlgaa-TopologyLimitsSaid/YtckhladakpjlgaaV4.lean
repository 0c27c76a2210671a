/- The walks of functions of the program. No condition but those that stand in each. -/
import Derived.Test.YtckhladakpjlgaaD4
namespace Go.Proofs.Ytckhladakpjlgaa
open Go
set_option maxRecDepth 100000
set_option linter.all false
theorem m_cmp_isNaN_int_ok {xa0 : Int} {r : Bool} (hm : m_cmp_isNaN_int xa0 = some r) : RO Try.prog 61 [] [.int .i64 xa0] (.bool r) := by
  refine enterA Try.func61 rfl rfl ?_
  unfold m_cmp_isNaN_int at hm
  refine A.RS W0 [] [] [(0, .int .i64 xa0)] [] (by kernel_rfl) ?_
  refine A.RS W0 [] [] [(2, .bool (!decide (xa0 = xa0)))] [] (by kernel_rfl) ?_
  refine A.ret ?_
  obtain rfl := some_inj hm
  exact A.fin W0 [] rfl (by kernel_rfl)
theorem m_cmp_Compare_int_ok {xa0 : Int} {y : Int} {r : Int} (hm : m_cmp_Compare_int xa0 y = some r) : RO Try.prog 49 [] [.int .i64 xa0, .int .i64 y] (.int .i64 r) := by
  refine enterA Try.func49 rfl rfl ?_
  unfold m_cmp_Compare_int at hm
  refine A.RS W0 [] [] [(0, .int .i64 xa0), (1, .int .i64 y)] [] (by kernel_rfl) ?_
  obtain ⟨vx_1, h1, hm⟩ := bnd_some hm
  refine A.RS W0 [] [(1, hro (m_cmp_isNaN_int_ok h1) ck61)] [(0, .int .i64 xa0), (1, .int .i64 y), (5, .bool vx_1)] [] (by kernel_rfl) ?_
  obtain ⟨vx_2, h2, hm⟩ := bnd_some hm
  refine A.RS W0 [] [(1, hro (m_cmp_isNaN_int_ok h2) ck61)] [(0, .int .i64 xa0), (1, .int .i64 y), (5, .bool vx_1), (6, .bool vx_2)] [] (by kernel_rfl) ?_
  refine A.seq ?_
  refine A.RS W0 [] [] [(0, .int .i64 xa0), (1, .int .i64 y), (6, .bool vx_2), (11, .bool vx_1)] [] (by kernel_rfl) ?_
  rcases cs_some hm with ⟨c1, hm⟩ | ⟨c1, hm⟩
  · skip
    refine A.cT rfl c1 ?_
    refine A.seq ?_
    refine A.RS W0 [] [] [(12, .bool vx_2)] [] (by kernel_rfl) ?_
    rcases cs_some hm with ⟨c2, hm⟩ | ⟨c2, hm⟩
    · skip
      refine A.cT rfl c2 ?_
      refine A.RS W0 [] [] [(4, .int .i64 (0:Int))] [] (by kernel_rfl) ?_
      refine A.ret ?_
      obtain rfl := some_inj hm
      exact A.fin W0 [] rfl (by kernel_rfl)
    refine A.cF rfl c2 ?_
    refine A.skip ?_
    show acode _ _ _ _ _
    refine A.RS W0 [] [] [(4, .int .i64 (-1:Int))] [] (by kernel_rfl) ?_
    refine A.ret ?_
    obtain rfl := some_inj hm
    exact A.fin W0 [] rfl (by kernel_rfl)
  refine A.cF rfl c1 ?_
  refine A.skip ?_
  show acode _ _ _ _ _
  refine A.seq ?_
  refine A.RS W0 [] [] [(0, .int .i64 xa0), (1, .int .i64 y), (13, .bool vx_2)] [] (by kernel_rfl) ?_
  rcases cs_some hm with ⟨c3, hm⟩ | ⟨c3, hm⟩
  · skip
    refine A.cT rfl c3 ?_
    refine A.RS W0 [] [] [(4, .int .i64 (1:Int))] [] (by kernel_rfl) ?_
    refine A.ret ?_
    obtain rfl := some_inj hm
    exact A.fin W0 [] rfl (by kernel_rfl)
  refine A.cF rfl c3 ?_
  refine A.skip ?_
  show acode _ _ _ _ _
  refine A.seq ?_
  refine A.RS W0 [] [] [(0, .int .i64 xa0), (1, .int .i64 y), (16, .bool (decide (xa0 < y)))] [] (by kernel_rfl) ?_
  rcases cs_some hm with ⟨c4, hm⟩ | ⟨c4, hm⟩
  · skip
    refine A.cT rfl c4 ?_
    refine A.RS W0 [] [] [(4, .int .i64 (-1:Int))] [] (by kernel_rfl) ?_
    refine A.ret ?_
    obtain rfl := some_inj hm
    exact A.fin W0 [] rfl (by kernel_rfl)
  refine A.cF rfl c4 ?_
  refine A.skip ?_
  show acode _ _ _ _ _
  refine A.seq ?_
  refine A.RS W0 [] [] [(19, .bool (decide (y < xa0)))] [] (by kernel_rfl) ?_
  rcases cs_some hm with ⟨c5, hm⟩ | ⟨c5, hm⟩
  · skip
    refine A.cT rfl c5 ?_
    refine A.RS W0 [] [] [(4, .int .i64 (1:Int))] [] (by kernel_rfl) ?_
    refine A.ret ?_
    obtain rfl := some_inj hm
    exact A.fin W0 [] rfl (by kernel_rfl)
  refine A.cF rfl c5 ?_
  refine A.skip ?_
  show acode _ _ _ _ _
  refine A.RS W0 [] [] [(4, .int .i64 (0:Int))] [] (by kernel_rfl) ?_
  refine A.ret ?_
  obtain rfl := some_inj hm
  exact A.fin W0 [] rfl (by kernel_rfl)
theorem m_cmp_Or_int_ok {vals : List Int} {r : Int} (hm : m_cmp_Or_int vals = some r) : RO Try.prog 48 [] [.lst false (ml eInt vals)] (.int .i64 r) := by
  refine enterA Try.func48 rfl rfl ?_
  unfold m_cmp_Or_int at hm
  refine A.RS W0 [] [] [(0, .lst false (ml eInt vals))] [] (by kernel_rfl) ?_
  refine A.RS W0 [] [] [(0, .lst false (ml eInt vals)), (3, .int .i64 (0:Int))] [] (by kernel_rfl) ?_
  refine A.seq ?_
  refine A.RS W0 [] [(1, hto (lnE eInt vals))] [(3, .int .i64 (0:Int)), (6, .lst false (ml eInt vals)), (7, .int .i64 (vals.length:Int)), (8, .int .i64 (0:Int))] [] (by kernel_rfl) ?_
  refine A.block ?_
  refine A.bS 6 rfl fun hb1 => ?_
  obtain ⟨B1, K1, hB1, hK1, hm⟩ := forI_some hm
  refine A.lpI (l := vals) (j0 := 0) (B := B1) (K := K1) hm (fun j1 => fun sg => match sg with | () => [(3, .int .i64 (0:Int)), (6, .lst false (ml eInt vals)), (7, .int .i64 (vals.length:Int)), (8, .int .i64 (j1 : Int))]) (fun j1 => fun sg => match sg with | () => []) ?_ ?_ ?_
  · exact Weak.go [] [] (by kernel_rfl)
  · skip
    rintro j1 e1 Z1 ⟨⟩ hj1 hx1 hm
    rw [hB1] at hm
    refine A.RS W0 [] [] [(3, .int .i64 (0:Int)), (6, .lst false (ml eInt vals)), (7, .int .i64 (vals.length:Int)), (8, .int .i64 (j1 : Int)), (9, .bool (decide ((j1 : Int) < (vals.length:Int))))] [] (by kernel_rfl) ?_
    refine A.seq ?_
    refine A.cT rfl (ltT hx1) ?_
    refine A.skip ?_
    show acode _ _ _ _ _
    refine A.seq ?_
    refine A.block ?_
    refine A.RS W0 [] [(0, hix (ix eInt (elO_nat hx1)))] [(3, .int .i64 (0:Int)), (6, .lst false (ml eInt vals)), (7, .int .i64 (vals.length:Int)), (8, .int .i64 (j1 : Int)), (5, .int .i64 e1)] [] (by kernel_rfl) ?_
    refine A.RS W0 [] [] [(3, .int .i64 (0:Int)), (6, .lst false (ml eInt vals)), (7, .int .i64 (vals.length:Int)), (8, .int .i64 (j1 : Int)), (5, .int .i64 e1), (14, .bool (!decide (e1 = (0:Int))))] [] (by kernel_rfl) ?_
    rcases cs_some hm with ⟨c1, hm⟩ | ⟨c1, hm⟩
    · skip
      refine A.cT rfl c1 ?_
      refine A.RS W0 [] [] [(2, .int .i64 e1)] [] (by kernel_rfl) ?_
      refine A.ret ?_
      obtain rfl := some_inj hm
      exact A.fin W0 [] rfl (by kernel_rfl)
    refine A.cF rfl c1 ?_
    refine A.skip ?_
    show acode _ _ _ _ _
    refine A.R W0 [] [(0, hto (inc hx1 hb1))] [(3, .int .i64 (0:Int)), (6, .lst false (ml eInt vals)), (7, .int .i64 (vals.length:Int)), (8, .int .i64 ((j1 + 1 : Nat) : Int))] [] (by kernel_rfl) ?_
    exact Exists.intro () (And.intro hm (Weak.go [] [] (by kernel_rfl)))
  rintro j1 ⟨⟩ hj1 hl1 hm
  rw [hK1] at hm
  refine A.RS W0 [] [] [(3, .int .i64 (0:Int)), (6, .lst false (ml eInt vals)), (7, .int .i64 (vals.length:Int)), (8, .int .i64 (j1 : Int)), (9, .bool (decide ((j1 : Int) < (vals.length:Int))))] [] (by kernel_rfl) ?_
  refine A.seq ?_
  refine A.cF rfl (ltF hl1) ?_
  refine A.exit ?_
  show acode _ _ _ _ _
  refine A.RS W0 [] [] [(2, .int .i64 (0:Int))] [] (by kernel_rfl) ?_
  refine A.ret ?_
  obtain rfl := some_inj hm
  exact A.fin W0 [] rfl (by kernel_rfl)
theorem m_slices_BinarySearchFunc_Lapi_Link_api_Link_api_Link_ok {xa0 : List GLink} {target : GLink} {cmp : GLink → GLink → Option Int} {cmp_g : Nat} {cmp_c : List AV} (cmp_k : CallOk Try.prog cmp_g) (cmp_f : ∀ (y0 : GLink) (y1 : GLink) (q : Int), cmp y0 y1 = some q → RO Try.prog cmp_g [] ([.agg [.int .i64 y0.A, .int .i64 y0.B, .int .i64 y0.CostA, .int .i64 y0.CostB, .int .i64 y0.Capacity], .agg [.int .i64 y1.A, .int .i64 y1.B, .int .i64 y1.CostA, .int .i64 y1.CostB, .int .i64 y1.Capacity]] ++ cmp_c) (.int .i64 q)) {r : Int × Bool} (hm : m_slices_BinarySearchFunc_Lapi_Link_api_Link_api_Link xa0 target cmp = some r) : RO Try.prog 20 [] [.lst false (ml eGLink xa0), .agg [.int .i64 target.A, .int .i64 target.B, .int .i64 target.CostA, .int .i64 target.CostB, .int .i64 target.Capacity], .cfn cmp_g cmp_c] (.tup [.int .i64 r.1, .bool r.2]) := by
  refine enterA Try.func20 rfl rfl ?_
  unfold m_slices_BinarySearchFunc_Lapi_Link_api_Link_api_Link at hm
  refine A.RS W0 [] [(0, .al 20004)] [(0, .lst false (ml eGLink xa0)), (2, .cfn cmp_g cmp_c), (4, .ptr 20004 0)] [(20004, .cells 44 [.int .i64 target.A, .int .i64 target.B, .int .i64 target.CostA, .int .i64 target.CostB, .int .i64 target.Capacity])] (by kernel_rfl) ?_
  refine A.RS W0 [] [(1, hto (lnE eGLink xa0))] [(0, .lst false (ml eGLink xa0)), (2, .cfn cmp_g cmp_c), (4, .ptr 20004 0), (8, .int .i64 (xa0.length:Int))] [(20004, .cells 44 [.int .i64 target.A, .int .i64 target.B, .int .i64 target.CostA, .int .i64 target.CostB, .int .i64 target.Capacity])] (by kernel_rfl) ?_
  refine A.RS W0 [] [] [(0, .lst false (ml eGLink xa0)), (2, .cfn cmp_g cmp_c), (4, .ptr 20004 0), (8, .int .i64 (xa0.length:Int)), (9, .int .i64 (0:Int)), (10, .int .i64 (xa0.length:Int))] [(20004, .cells 44 [.int .i64 target.A, .int .i64 target.B, .int .i64 target.CostA, .int .i64 target.CostB, .int .i64 target.Capacity])] (by kernel_rfl) ?_
  refine A.seq ?_
  refine A.block ?_
  obtain ⟨F1, n1, hF1, hm⟩ := whl_some hm
  refine A.lpW (F := F1) hm (fun sg => match sg with | (i_1, j_1) => [(0, .lst false (ml eGLink xa0)), (2, .cfn cmp_g cmp_c), (4, .ptr 20004 0), (8, .int .i64 (xa0.length:Int)), (9, .int .i64 i_1), (10, .int .i64 j_1)]) (fun sg => match sg with | (i_1, j_1) => [(20004, .cells 44 [.int .i64 target.A, .int .i64 target.B, .int .i64 target.CostA, .int .i64 target.CostB, .int .i64 target.Capacity])]) ?_ ?_
  · exact Weak.go [] [] (by kernel_rfl)
  rintro Z1 ⟨i_1, j_1⟩ hm
  rw [hF1] at hm
  refine A.seq ?_
  refine A.RS W0 [] [] [(0, .lst false (ml eGLink xa0)), (2, .cfn cmp_g cmp_c), (4, .ptr 20004 0), (8, .int .i64 (xa0.length:Int)), (9, .int .i64 i_1), (10, .int .i64 j_1), (17, .bool (decide (i_1 < j_1)))] [(20004, .cells 44 [.int .i64 target.A, .int .i64 target.B, .int .i64 target.CostA, .int .i64 target.CostB, .int .i64 target.Capacity])] (by kernel_rfl) ?_
  rcases cs_some hm with ⟨c1, hm⟩ | ⟨c1, hm⟩
  · skip
    refine A.cT rfl c1 ?_
    refine A.skip ?_
    show acode _ _ _ _ _
    refine A.block ?_
    refine A.RS W0 [] [(4, .sh (1:Int) (by decide))] [(0, .lst false (ml eGLink xa0)), (2, .cfn cmp_g cmp_c), (4, .ptr 20004 0), (8, .int .i64 (xa0.length:Int)), (9, .int .i64 i_1), (10, .int .i64 j_1), (11, .int .i64 (w64 (Int.fdiv (IntKind.wrap .u64 (w64 (i_1 + j_1))) (2 ^ min (1:Int).toNat 64))))] [(20004, .cells 44 [.int .i64 target.A, .int .i64 target.B, .int .i64 target.CostA, .int .i64 target.CostB, .int .i64 target.Capacity])] (by kernel_rfl) ?_
    obtain ⟨e_1, h1, hm⟩ := bnd_some hm
    obtain ⟨vx_1, h2, hm⟩ := bnd_some hm
    refine A.RS W0 [] [(3, hix (ix eGLink h1)), (6, hrf (cmp_f _ _ _ h2) cmp_k)] [(0, .lst false (ml eGLink xa0)), (2, .cfn cmp_g cmp_c), (4, .ptr 20004 0), (8, .int .i64 (xa0.length:Int)), (9, .int .i64 i_1), (10, .int .i64 j_1), (11, .int .i64 (w64 (Int.fdiv (IntKind.wrap .u64 (w64 (i_1 + j_1))) (2 ^ min (1:Int).toNat 64)))), (31, .bool (decide (vx_1 < (0:Int))))] [(20004, .cells 44 [.int .i64 target.A, .int .i64 target.B, .int .i64 target.CostA, .int .i64 target.CostB, .int .i64 target.Capacity])] (by kernel_rfl) ?_
    rcases cs_some hm with ⟨c2, hm⟩ | ⟨c2, hm⟩
    · skip
      refine A.cT rfl c2 ?_
      refine A.R W0 [] [] [(0, .lst false (ml eGLink xa0)), (2, .cfn cmp_g cmp_c), (4, .ptr 20004 0), (8, .int .i64 (xa0.length:Int)), (9, .int .i64 (w64 ((w64 (Int.fdiv (IntKind.wrap .u64 (w64 (i_1 + j_1))) (2 ^ min (1:Int).toNat 64))) + (1:Int)))), (10, .int .i64 j_1)] [(20004, .cells 44 [.int .i64 target.A, .int .i64 target.B, .int .i64 target.CostA, .int .i64 target.CostB, .int .i64 target.Capacity])] (by kernel_rfl) ?_
      exact Exists.intro (w64 ((w64 (Int.fdiv (IntKind.wrap .u64 (w64 (i_1 + j_1))) (2 ^ min (1:Int).toNat 64))) + (1:Int)), j_1) (And.intro hm (Weak.go [] [] (by kernel_rfl)))
    refine A.cF rfl c2 ?_
    refine A.R W0 [] [] [(0, .lst false (ml eGLink xa0)), (2, .cfn cmp_g cmp_c), (4, .ptr 20004 0), (8, .int .i64 (xa0.length:Int)), (9, .int .i64 i_1), (10, .int .i64 (w64 (Int.fdiv (IntKind.wrap .u64 (w64 (i_1 + j_1))) (2 ^ min (1:Int).toNat 64))))] [(20004, .cells 44 [.int .i64 target.A, .int .i64 target.B, .int .i64 target.CostA, .int .i64 target.CostB, .int .i64 target.Capacity])] (by kernel_rfl) ?_
    exact Exists.intro (i_1, w64 (Int.fdiv (IntKind.wrap .u64 (w64 (i_1 + j_1))) (2 ^ min (1:Int).toNat 64))) (And.intro hm (Weak.go [] [] (by kernel_rfl)))
  refine A.cF rfl c1 ?_
  refine A.exit ?_
  show acode _ _ _ _ _
  rcases cs_some hm with ⟨c3, hm⟩ | ⟨c3, hm⟩
  · skip
    obtain ⟨e_2, h3, hm⟩ := bnd_some hm
    obtain ⟨vx_2, h4, hm⟩ := bnd_some hm
    refine A.RS W0 [] [(4, hto (bE c3)), (8, hix (ix eGLink h3)), (11, hrf (cmp_f _ _ _ h4) cmp_k)] [(6, .int .i64 i_1), (7, .bool (decide (vx_2 = (0:Int))))] [] (by kernel_rfl) ?_
    refine A.ret ?_
    obtain rfl := some_inj hm
    exact A.fin W0 [] rfl (by kernel_rfl)
  refine A.RS W0 [] [(4, hto (bE c3))] [(6, .int .i64 i_1), (7, .bool false)] [] (by kernel_rfl) ?_
  refine A.ret ?_
  obtain rfl := some_inj hm
  exact A.fin W0 [] rfl (by kernel_rfl)
theorem m_slices_BinarySearchFunc_Lapi_Router_api_Router_int_ok {xa0 : List GRouter} {target : Int} {cmp : GRouter → Int → Option Int} {cmp_g : Nat} {cmp_c : List AV} (cmp_k : CallOk Try.prog cmp_g) (cmp_f : ∀ (y0 : GRouter) (y1 : Int) (q : Int), cmp y0 y1 = some q → RO Try.prog cmp_g [] ([.agg [.int .i64 y0.ID, .bool y0.Capable], .int .i64 y1] ++ cmp_c) (.int .i64 q)) {r : Int × Bool} (hm : m_slices_BinarySearchFunc_Lapi_Router_api_Router_int xa0 target cmp = some r) : RO Try.prog 36 [] [.lst false (ml eGRouter xa0), .int .i64 target, .cfn cmp_g cmp_c] (.tup [.int .i64 r.1, .bool r.2]) := by
  refine enterA Try.func36 rfl rfl ?_
  unfold m_slices_BinarySearchFunc_Lapi_Router_api_Router_int at hm
  refine A.RS W0 [] [] [(0, .lst false (ml eGRouter xa0)), (1, .int .i64 target), (2, .cfn cmp_g cmp_c)] [] (by kernel_rfl) ?_
  refine A.RS W0 [] [(1, hto (lnE eGRouter xa0))] [(0, .lst false (ml eGRouter xa0)), (1, .int .i64 target), (2, .cfn cmp_g cmp_c), (8, .int .i64 (xa0.length:Int))] [] (by kernel_rfl) ?_
  refine A.RS W0 [] [] [(0, .lst false (ml eGRouter xa0)), (1, .int .i64 target), (2, .cfn cmp_g cmp_c), (8, .int .i64 (xa0.length:Int)), (9, .int .i64 (0:Int)), (10, .int .i64 (xa0.length:Int))] [] (by kernel_rfl) ?_
  refine A.seq ?_
  refine A.block ?_
  obtain ⟨F1, n1, hF1, hm⟩ := whl_some hm
  refine A.lpW (F := F1) hm (fun sg => match sg with | (i_1, j_1) => [(0, .lst false (ml eGRouter xa0)), (1, .int .i64 target), (2, .cfn cmp_g cmp_c), (8, .int .i64 (xa0.length:Int)), (9, .int .i64 i_1), (10, .int .i64 j_1)]) (fun sg => match sg with | (i_1, j_1) => []) ?_ ?_
  · exact Weak.go [] [] (by kernel_rfl)
  rintro Z1 ⟨i_1, j_1⟩ hm
  rw [hF1] at hm
  refine A.seq ?_
  refine A.RS W0 [] [] [(0, .lst false (ml eGRouter xa0)), (1, .int .i64 target), (2, .cfn cmp_g cmp_c), (8, .int .i64 (xa0.length:Int)), (9, .int .i64 i_1), (10, .int .i64 j_1), (17, .bool (decide (i_1 < j_1)))] [] (by kernel_rfl) ?_
  rcases cs_some hm with ⟨c1, hm⟩ | ⟨c1, hm⟩
  · skip
    refine A.cT rfl c1 ?_
    refine A.skip ?_
    show acode _ _ _ _ _
    refine A.block ?_
    refine A.RS W0 [] [(4, .sh (1:Int) (by decide))] [(0, .lst false (ml eGRouter xa0)), (1, .int .i64 target), (2, .cfn cmp_g cmp_c), (8, .int .i64 (xa0.length:Int)), (9, .int .i64 i_1), (10, .int .i64 j_1), (11, .int .i64 (w64 (Int.fdiv (IntKind.wrap .u64 (w64 (i_1 + j_1))) (2 ^ min (1:Int).toNat 64))))] [] (by kernel_rfl) ?_
    obtain ⟨e_1, h1, hm⟩ := bnd_some hm
    obtain ⟨vx_1, h2, hm⟩ := bnd_some hm
    refine A.RS W0 [] [(3, hix (ix eGRouter h1)), (6, hrf (cmp_f _ _ _ h2) cmp_k)] [(0, .lst false (ml eGRouter xa0)), (1, .int .i64 target), (2, .cfn cmp_g cmp_c), (8, .int .i64 (xa0.length:Int)), (9, .int .i64 i_1), (10, .int .i64 j_1), (11, .int .i64 (w64 (Int.fdiv (IntKind.wrap .u64 (w64 (i_1 + j_1))) (2 ^ min (1:Int).toNat 64)))), (31, .bool (decide (vx_1 < (0:Int))))] [] (by kernel_rfl) ?_
    rcases cs_some hm with ⟨c2, hm⟩ | ⟨c2, hm⟩
    · skip
      refine A.cT rfl c2 ?_
      refine A.R W0 [] [] [(0, .lst false (ml eGRouter xa0)), (1, .int .i64 target), (2, .cfn cmp_g cmp_c), (8, .int .i64 (xa0.length:Int)), (9, .int .i64 (w64 ((w64 (Int.fdiv (IntKind.wrap .u64 (w64 (i_1 + j_1))) (2 ^ min (1:Int).toNat 64))) + (1:Int)))), (10, .int .i64 j_1)] [] (by kernel_rfl) ?_
      exact Exists.intro (w64 ((w64 (Int.fdiv (IntKind.wrap .u64 (w64 (i_1 + j_1))) (2 ^ min (1:Int).toNat 64))) + (1:Int)), j_1) (And.intro hm (Weak.go [] [] (by kernel_rfl)))
    refine A.cF rfl c2 ?_
    refine A.R W0 [] [] [(0, .lst false (ml eGRouter xa0)), (1, .int .i64 target), (2, .cfn cmp_g cmp_c), (8, .int .i64 (xa0.length:Int)), (9, .int .i64 i_1), (10, .int .i64 (w64 (Int.fdiv (IntKind.wrap .u64 (w64 (i_1 + j_1))) (2 ^ min (1:Int).toNat 64))))] [] (by kernel_rfl) ?_
    exact Exists.intro (i_1, w64 (Int.fdiv (IntKind.wrap .u64 (w64 (i_1 + j_1))) (2 ^ min (1:Int).toNat 64))) (And.intro hm (Weak.go [] [] (by kernel_rfl)))
  refine A.cF rfl c1 ?_
  refine A.exit ?_
  show acode _ _ _ _ _
  rcases cs_some hm with ⟨c3, hm⟩ | ⟨c3, hm⟩
  · skip
    obtain ⟨e_2, h3, hm⟩ := bnd_some hm
    obtain ⟨vx_2, h4, hm⟩ := bnd_some hm
    refine A.RS W0 [] [(4, hto (bE c3)), (8, hix (ix eGRouter h3)), (11, hrf (cmp_f _ _ _ h4) cmp_k)] [(6, .int .i64 i_1), (7, .bool (decide (vx_2 = (0:Int))))] [] (by kernel_rfl) ?_
    refine A.ret ?_
    obtain rfl := some_inj hm
    exact A.fin W0 [] rfl (by kernel_rfl)
  refine A.RS W0 [] [(4, hto (bE c3))] [(6, .int .i64 i_1), (7, .bool false)] [] (by kernel_rfl) ?_
  refine A.ret ?_
  obtain rfl := some_inj hm
  exact A.fin W0 [] rfl (by kernel_rfl)
theorem m_slices_IndexFunc_Lapi_Router_api_Router_ok {sa0 : List GRouter} {f : GRouter → Option Bool} {f_g : Nat} {f_c : List AV} (f_k : CallOk Try.prog f_g) (f_f : ∀ (y0 : GRouter) (q : Bool), f y0 = some q → RO Try.prog f_g [] ([.agg [.int .i64 y0.ID, .bool y0.Capable]] ++ f_c) (.bool q)) {r : Int} (hm : m_slices_IndexFunc_Lapi_Router_api_Router sa0 f = some r) : RO Try.prog 55 [] [.lst false (ml eGRouter sa0), .cfn f_g f_c] (.int .i64 r) := by
  refine enterA Try.func55 rfl rfl ?_
  unfold m_slices_IndexFunc_Lapi_Router_api_Router at hm
  refine A.RS W0 [] [] [(0, .lst false (ml eGRouter sa0)), (1, .cfn f_g f_c)] [] (by kernel_rfl) ?_
  refine A.seq ?_
  refine A.RS W0 [] [(1, hto (lnE eGRouter sa0))] [(0, .lst false (ml eGRouter sa0)), (1, .cfn f_g f_c), (7, .int .i64 (sa0.length:Int)), (8, .int .i64 (0:Int))] [] (by kernel_rfl) ?_
  refine A.block ?_
  refine A.bS 0 rfl fun hb1 => ?_
  obtain ⟨B1, K1, hB1, hK1, hm⟩ := forI_some hm
  refine A.lpI (l := sa0) (j0 := 0) (B := B1) (K := K1) hm (fun j1 => fun sg => match sg with | () => [(0, .lst false (ml eGRouter sa0)), (1, .cfn f_g f_c), (7, .int .i64 (sa0.length:Int)), (8, .int .i64 (j1 : Int))]) (fun j1 => fun sg => match sg with | () => []) ?_ ?_ ?_
  · exact Weak.go [] [] (by kernel_rfl)
  · skip
    rintro j1 e1 Z1 ⟨⟩ hj1 hx1 hm
    rw [hB1] at hm
    refine A.RS W0 [] [] [(0, .lst false (ml eGRouter sa0)), (1, .cfn f_g f_c), (7, .int .i64 (sa0.length:Int)), (8, .int .i64 (j1 : Int)), (9, .bool (decide ((j1 : Int) < (sa0.length:Int))))] [] (by kernel_rfl) ?_
    refine A.seq ?_
    refine A.cT rfl (ltT hx1) ?_
    refine A.skip ?_
    show acode _ _ _ _ _
    refine A.seq ?_
    refine A.block ?_
    refine A.RS W0 [] [] [(0, .lst false (ml eGRouter sa0)), (1, .cfn f_g f_c), (7, .int .i64 (sa0.length:Int)), (8, .int .i64 (j1 : Int)), (5, .int .i64 (j1 : Int))] [] (by kernel_rfl) ?_
    obtain ⟨vx_1, h1, hm⟩ := bnd_some hm
    refine A.RS W0 [] [(3, hix (ix eGRouter (elO_nat hx1))), (5, hrf (f_f _ _ h1) f_k)] [(0, .lst false (ml eGRouter sa0)), (1, .cfn f_g f_c), (7, .int .i64 (sa0.length:Int)), (8, .int .i64 (j1 : Int)), (5, .int .i64 (j1 : Int)), (16, .bool vx_1)] [] (by kernel_rfl) ?_
    rcases cs_some hm with ⟨c1, hm⟩ | ⟨c1, hm⟩
    · skip
      refine A.cT rfl c1 ?_
      refine A.RS W0 [] [] [(4, .int .i64 (j1 : Int))] [] (by kernel_rfl) ?_
      refine A.ret ?_
      obtain rfl := some_inj hm
      exact A.fin W0 [] rfl (by kernel_rfl)
    refine A.cF rfl c1 ?_
    refine A.skip ?_
    show acode _ _ _ _ _
    refine A.R W0 [] [(0, hto (inc hx1 hb1))] [(0, .lst false (ml eGRouter sa0)), (1, .cfn f_g f_c), (7, .int .i64 (sa0.length:Int)), (8, .int .i64 ((j1 + 1 : Nat) : Int))] [] (by kernel_rfl) ?_
    exact Exists.intro () (And.intro hm (Weak.go [] [] (by kernel_rfl)))
  rintro j1 ⟨⟩ hj1 hl1 hm
  rw [hK1] at hm
  refine A.RS W0 [] [] [(0, .lst false (ml eGRouter sa0)), (1, .cfn f_g f_c), (7, .int .i64 (sa0.length:Int)), (8, .int .i64 (j1 : Int)), (9, .bool (decide ((j1 : Int) < (sa0.length:Int))))] [] (by kernel_rfl) ?_
  refine A.seq ?_
  refine A.cF rfl (ltF hl1) ?_
  refine A.exit ?_
  show acode _ _ _ _ _
  refine A.RS W0 [] [] [(4, .int .i64 (-1:Int))] [] (by kernel_rfl) ?_
  refine A.ret ?_
  obtain rfl := some_inj hm
  exact A.fin W0 [] rfl (by kernel_rfl)
theorem m_slices_IndexFunc_Lapi_Link_api_Link_ok {sa0 : List GLink} {f : GLink → Option Bool} {f_g : Nat} {f_c : List AV} (f_k : CallOk Try.prog f_g) (f_f : ∀ (y0 : GLink) (q : Bool), f y0 = some q → RO Try.prog f_g [] ([.agg [.int .i64 y0.A, .int .i64 y0.B, .int .i64 y0.CostA, .int .i64 y0.CostB, .int .i64 y0.Capacity]] ++ f_c) (.bool q)) {r : Int} (hm : m_slices_IndexFunc_Lapi_Link_api_Link sa0 f = some r) : RO Try.prog 56 [] [.lst false (ml eGLink sa0), .cfn f_g f_c] (.int .i64 r) := by
  refine enterA Try.func56 rfl rfl ?_
  unfold m_slices_IndexFunc_Lapi_Link_api_Link at hm
  refine A.RS W0 [] [] [(0, .lst false (ml eGLink sa0)), (1, .cfn f_g f_c)] [] (by kernel_rfl) ?_
  refine A.seq ?_
  refine A.RS W0 [] [(1, hto (lnE eGLink sa0))] [(0, .lst false (ml eGLink sa0)), (1, .cfn f_g f_c), (7, .int .i64 (sa0.length:Int)), (8, .int .i64 (0:Int))] [] (by kernel_rfl) ?_
  refine A.block ?_
  refine A.bS 0 rfl fun hb1 => ?_
  obtain ⟨B1, K1, hB1, hK1, hm⟩ := forI_some hm
  refine A.lpI (l := sa0) (j0 := 0) (B := B1) (K := K1) hm (fun j1 => fun sg => match sg with | () => [(0, .lst false (ml eGLink sa0)), (1, .cfn f_g f_c), (7, .int .i64 (sa0.length:Int)), (8, .int .i64 (j1 : Int))]) (fun j1 => fun sg => match sg with | () => []) ?_ ?_ ?_
  · exact Weak.go [] [] (by kernel_rfl)
  · skip
    rintro j1 e1 Z1 ⟨⟩ hj1 hx1 hm
    rw [hB1] at hm
    refine A.RS W0 [] [] [(0, .lst false (ml eGLink sa0)), (1, .cfn f_g f_c), (7, .int .i64 (sa0.length:Int)), (8, .int .i64 (j1 : Int)), (9, .bool (decide ((j1 : Int) < (sa0.length:Int))))] [] (by kernel_rfl) ?_
    refine A.seq ?_
    refine A.cT rfl (ltT hx1) ?_
    refine A.skip ?_
    show acode _ _ _ _ _
    refine A.seq ?_
    refine A.block ?_
    refine A.RS W0 [] [] [(0, .lst false (ml eGLink sa0)), (1, .cfn f_g f_c), (7, .int .i64 (sa0.length:Int)), (8, .int .i64 (j1 : Int)), (5, .int .i64 (j1 : Int))] [] (by kernel_rfl) ?_
    obtain ⟨vx_1, h1, hm⟩ := bnd_some hm
    refine A.RS W0 [] [(3, hix (ix eGLink (elO_nat hx1))), (5, hrf (f_f _ _ h1) f_k)] [(0, .lst false (ml eGLink sa0)), (1, .cfn f_g f_c), (7, .int .i64 (sa0.length:Int)), (8, .int .i64 (j1 : Int)), (5, .int .i64 (j1 : Int)), (16, .bool vx_1)] [] (by kernel_rfl) ?_
    rcases cs_some hm with ⟨c1, hm⟩ | ⟨c1, hm⟩
    · skip
      refine A.cT rfl c1 ?_
      refine A.RS W0 [] [] [(4, .int .i64 (j1 : Int))] [] (by kernel_rfl) ?_
      refine A.ret ?_
      obtain rfl := some_inj hm
      exact A.fin W0 [] rfl (by kernel_rfl)
    refine A.cF rfl c1 ?_
    refine A.skip ?_
    show acode _ _ _ _ _
    refine A.R W0 [] [(0, hto (inc hx1 hb1))] [(0, .lst false (ml eGLink sa0)), (1, .cfn f_g f_c), (7, .int .i64 (sa0.length:Int)), (8, .int .i64 ((j1 + 1 : Nat) : Int))] [] (by kernel_rfl) ?_
    exact Exists.intro () (And.intro hm (Weak.go [] [] (by kernel_rfl)))
  rintro j1 ⟨⟩ hj1 hl1 hm
  rw [hK1] at hm
  refine A.RS W0 [] [] [(0, .lst false (ml eGLink sa0)), (1, .cfn f_g f_c), (7, .int .i64 (sa0.length:Int)), (8, .int .i64 (j1 : Int)), (9, .bool (decide ((j1 : Int) < (sa0.length:Int))))] [] (by kernel_rfl) ?_
  refine A.seq ?_
  refine A.cF rfl (ltF hl1) ?_
  refine A.exit ?_
  show acode _ _ _ _ _
  refine A.RS W0 [] [] [(4, .int .i64 (-1:Int))] [] (by kernel_rfl) ?_
  refine A.ret ?_
  obtain rfl := some_inj hm
  exact A.fin W0 [] rfl (by kernel_rfl)
theorem m_slices_Index_Lint_int_ok {sa0 : List Int} {v : Int} {r : Int} (hm : m_slices_Index_Lint_int sa0 v = some r) : RO Try.prog 63 [] [.lst false (ml eInt sa0), .int .i64 v] (.int .i64 r) := by
  refine enterA Try.func63 rfl rfl ?_
  unfold m_slices_Index_Lint_int at hm
  refine A.RS W0 [] [] [(0, .lst false (ml eInt sa0)), (1, .int .i64 v)] [] (by kernel_rfl) ?_
  refine A.seq ?_
  refine A.RS W0 [] [(1, hto (lnE eInt sa0))] [(0, .lst false (ml eInt sa0)), (1, .int .i64 v), (7, .int .i64 (sa0.length:Int)), (8, .int .i64 (0:Int))] [] (by kernel_rfl) ?_
  refine A.block ?_
  refine A.bS 0 rfl fun hb1 => ?_
  obtain ⟨B1, K1, hB1, hK1, hm⟩ := forI_some hm
  refine A.lpI (l := sa0) (j0 := 0) (B := B1) (K := K1) hm (fun j1 => fun sg => match sg with | () => [(0, .lst false (ml eInt sa0)), (1, .int .i64 v), (7, .int .i64 (sa0.length:Int)), (8, .int .i64 (j1 : Int))]) (fun j1 => fun sg => match sg with | () => []) ?_ ?_ ?_
  · exact Weak.go [] [] (by kernel_rfl)
  · skip
    rintro j1 e1 Z1 ⟨⟩ hj1 hx1 hm
    rw [hB1] at hm
    refine A.RS W0 [] [] [(0, .lst false (ml eInt sa0)), (1, .int .i64 v), (7, .int .i64 (sa0.length:Int)), (8, .int .i64 (j1 : Int)), (9, .bool (decide ((j1 : Int) < (sa0.length:Int))))] [] (by kernel_rfl) ?_
    refine A.seq ?_
    refine A.cT rfl (ltT hx1) ?_
    refine A.skip ?_
    show acode _ _ _ _ _
    refine A.seq ?_
    refine A.block ?_
    refine A.RS W0 [] [] [(0, .lst false (ml eInt sa0)), (1, .int .i64 v), (7, .int .i64 (sa0.length:Int)), (8, .int .i64 (j1 : Int)), (5, .int .i64 (j1 : Int))] [] (by kernel_rfl) ?_
    refine A.RS W0 [] [(3, hix (ix eInt (elO_nat hx1)))] [(0, .lst false (ml eInt sa0)), (1, .int .i64 v), (7, .int .i64 (sa0.length:Int)), (8, .int .i64 (j1 : Int)), (5, .int .i64 (j1 : Int)), (16, .bool (decide (v = e1)))] [] (by kernel_rfl) ?_
    rcases cs_some hm with ⟨c1, hm⟩ | ⟨c1, hm⟩
    · skip
      refine A.cT rfl c1 ?_
      refine A.RS W0 [] [] [(4, .int .i64 (j1 : Int))] [] (by kernel_rfl) ?_
      refine A.ret ?_
      obtain rfl := some_inj hm
      exact A.fin W0 [] rfl (by kernel_rfl)
    refine A.cF rfl c1 ?_
    refine A.skip ?_
    show acode _ _ _ _ _
    refine A.R W0 [] [(0, hto (inc hx1 hb1))] [(0, .lst false (ml eInt sa0)), (1, .int .i64 v), (7, .int .i64 (sa0.length:Int)), (8, .int .i64 ((j1 + 1 : Nat) : Int))] [] (by kernel_rfl) ?_
    exact Exists.intro () (And.intro hm (Weak.go [] [] (by kernel_rfl)))
  rintro j1 ⟨⟩ hj1 hl1 hm
  rw [hK1] at hm
  refine A.RS W0 [] [] [(0, .lst false (ml eInt sa0)), (1, .int .i64 v), (7, .int .i64 (sa0.length:Int)), (8, .int .i64 (j1 : Int)), (9, .bool (decide ((j1 : Int) < (sa0.length:Int))))] [] (by kernel_rfl) ?_
  refine A.seq ?_
  refine A.cF rfl (ltF hl1) ?_
  refine A.exit ?_
  show acode _ _ _ _ _
  refine A.RS W0 [] [] [(4, .int .i64 (-1:Int))] [] (by kernel_rfl) ?_
  refine A.ret ?_
  obtain rfl := some_inj hm
  exact A.fin W0 [] rfl (by kernel_rfl)
theorem m_slices_Index_Lapi_Hop_api_Hop_ok {sa0 : List GHop} {v : GHop} {r : Int} (hm : m_slices_Index_Lapi_Hop_api_Hop sa0 v = some r) : RO Try.prog 70 [] [.lst false (ml eGHop sa0), .agg [.int .i64 v.From, .int .i64 v.To]] (.int .i64 r) := by
  refine enterA Try.func70 rfl rfl ?_
  unfold m_slices_Index_Lapi_Hop_api_Hop at hm
  refine A.RS W0 [] [(0, .al 70003)] [(0, .lst false (ml eGHop sa0)), (3, .ptr 70003 0)] [(70003, .cells 66 [.int .i64 v.From, .int .i64 v.To])] (by kernel_rfl) ?_
  refine A.seq ?_
  refine A.RS W0 [] [(1, hto (lnE eGHop sa0))] [(0, .lst false (ml eGHop sa0)), (3, .ptr 70003 0), (7, .int .i64 (sa0.length:Int)), (8, .int .i64 (0:Int))] [(70003, .cells 66 [.int .i64 v.From, .int .i64 v.To])] (by kernel_rfl) ?_
  refine A.block ?_
  refine A.bS 0 rfl fun hb1 => ?_
  obtain ⟨B1, K1, hB1, hK1, hm⟩ := forI_some hm
  refine A.lpI (l := sa0) (j0 := 0) (B := B1) (K := K1) hm (fun j1 => fun sg => match sg with | () => [(0, .lst false (ml eGHop sa0)), (3, .ptr 70003 0), (7, .int .i64 (sa0.length:Int)), (8, .int .i64 (j1 : Int))]) (fun j1 => fun sg => match sg with | () => [(70003, .cells 66 [.int .i64 v.From, .int .i64 v.To])]) ?_ ?_ ?_
  · exact Weak.go [] [] (by kernel_rfl)
  · skip
    rintro j1 e1 Z1 ⟨⟩ hj1 hx1 hm
    rw [hB1] at hm
    refine A.RS W0 [] [] [(0, .lst false (ml eGHop sa0)), (3, .ptr 70003 0), (7, .int .i64 (sa0.length:Int)), (8, .int .i64 (j1 : Int)), (9, .bool (decide ((j1 : Int) < (sa0.length:Int))))] [(70003, .cells 66 [.int .i64 v.From, .int .i64 v.To])] (by kernel_rfl) ?_
    refine A.seq ?_
    refine A.cT rfl (ltT hx1) ?_
    refine A.skip ?_
    show acode _ _ _ _ _
    refine A.seq ?_
    refine A.block ?_
    refine A.RS W0 [] [] [(0, .lst false (ml eGHop sa0)), (3, .ptr 70003 0), (7, .int .i64 (sa0.length:Int)), (8, .int .i64 (j1 : Int)), (5, .int .i64 (j1 : Int))] [(70003, .cells 66 [.int .i64 v.From, .int .i64 v.To])] (by kernel_rfl) ?_
    refine A.RS W0 [] [(3, hix (ix eGHop (elO_nat hx1))), (5, .sq false 66 (.agg [.int .i64 v.From, .int .i64 v.To]) (.agg [.int .i64 e1.From, .int .i64 e1.To]) (eqGHop v e1) (fun x y w => eq66_eql x y _ _ _ _ w))] [(0, .lst false (ml eGHop sa0)), (3, .ptr 70003 0), (7, .int .i64 (sa0.length:Int)), (8, .int .i64 (j1 : Int)), (5, .int .i64 (j1 : Int)), (16, .bool (eqGHop v e1))] [(70003, .cells 66 [.int .i64 v.From, .int .i64 v.To])] (by kernel_rfl) ?_
    rcases cs_some hm with ⟨c1, hm⟩ | ⟨c1, hm⟩
    · skip
      refine A.cT rfl c1 ?_
      refine A.RS W0 [] [] [(4, .int .i64 (j1 : Int))] [] (by kernel_rfl) ?_
      refine A.ret ?_
      obtain rfl := some_inj hm
      exact A.fin W0 [] rfl (by kernel_rfl)
    refine A.cF rfl c1 ?_
    refine A.skip ?_
    show acode _ _ _ _ _
    refine A.R W0 [] [(0, hto (inc hx1 hb1))] [(0, .lst false (ml eGHop sa0)), (3, .ptr 70003 0), (7, .int .i64 (sa0.length:Int)), (8, .int .i64 ((j1 + 1 : Nat) : Int))] [(70003, .cells 66 [.int .i64 v.From, .int .i64 v.To])] (by kernel_rfl) ?_
    exact Exists.intro () (And.intro hm (Weak.go [] [] (by kernel_rfl)))
  rintro j1 ⟨⟩ hj1 hl1 hm
  rw [hK1] at hm
  refine A.RS W0 [] [] [(0, .lst false (ml eGHop sa0)), (3, .ptr 70003 0), (7, .int .i64 (sa0.length:Int)), (8, .int .i64 (j1 : Int)), (9, .bool (decide ((j1 : Int) < (sa0.length:Int))))] [(70003, .cells 66 [.int .i64 v.From, .int .i64 v.To])] (by kernel_rfl) ?_
  refine A.seq ?_
  refine A.cF rfl (ltF hl1) ?_
  refine A.exit ?_
  show acode _ _ _ _ _
  refine A.RS W0 [] [] [(4, .int .i64 (-1:Int))] [] (by kernel_rfl) ?_
  refine A.ret ?_
  obtain rfl := some_inj hm
  exact A.fin W0 [] rfl (by kernel_rfl)
theorem m_slices_ContainsFunc_Lapi_Router_api_Router_ok {sa0 : List GRouter} {f : GRouter → Option Bool} {f_g : Nat} {f_c : List AV} (f_k : CallOk Try.prog f_g) (f_f : ∀ (y0 : GRouter) (q : Bool), f y0 = some q → RO Try.prog f_g [] ([.agg [.int .i64 y0.ID, .bool y0.Capable]] ++ f_c) (.bool q)) {r : Bool} (hm : m_slices_ContainsFunc_Lapi_Router_api_Router sa0 f = some r) : RO Try.prog 33 [] [.lst false (ml eGRouter sa0), .cfn f_g f_c] (.bool r) := by
  refine enterA Try.func33 rfl rfl ?_
  unfold m_slices_ContainsFunc_Lapi_Router_api_Router at hm
  refine A.RS W0 [] [] [(0, .lst false (ml eGRouter sa0)), (1, .cfn f_g f_c)] [] (by kernel_rfl) ?_
  obtain ⟨vx_1, h1, hm⟩ := bnd_some hm
  refine A.RS W0 [] [(2, hro (m_slices_IndexFunc_Lapi_Router_api_Router_ok (f_k := f_k) (f_f := f_f) h1) ck55)] [(4, .bool (decide ((0:Int) ≤ vx_1)))] [] (by kernel_rfl) ?_
  refine A.ret ?_
  obtain rfl := some_inj hm
  exact A.fin W0 [] rfl (by kernel_rfl)
theorem m_slices_ContainsFunc_Lapi_Link_api_Link_ok {sa0 : List GLink} {f : GLink → Option Bool} {f_g : Nat} {f_c : List AV} (f_k : CallOk Try.prog f_g) (f_f : ∀ (y0 : GLink) (q : Bool), f y0 = some q → RO Try.prog f_g [] ([.agg [.int .i64 y0.A, .int .i64 y0.B, .int .i64 y0.CostA, .int .i64 y0.CostB, .int .i64 y0.Capacity]] ++ f_c) (.bool q)) {r : Bool} (hm : m_slices_ContainsFunc_Lapi_Link_api_Link sa0 f = some r) : RO Try.prog 38 [] [.lst false (ml eGLink sa0), .cfn f_g f_c] (.bool r) := by
  refine enterA Try.func38 rfl rfl ?_
  unfold m_slices_ContainsFunc_Lapi_Link_api_Link at hm
  refine A.RS W0 [] [] [(0, .lst false (ml eGLink sa0)), (1, .cfn f_g f_c)] [] (by kernel_rfl) ?_
  obtain ⟨vx_1, h1, hm⟩ := bnd_some hm
  refine A.RS W0 [] [(2, hro (m_slices_IndexFunc_Lapi_Link_api_Link_ok (f_k := f_k) (f_f := f_f) h1) ck56)] [(4, .bool (decide ((0:Int) ≤ vx_1)))] [] (by kernel_rfl) ?_
  refine A.ret ?_
  obtain rfl := some_inj hm
  exact A.fin W0 [] rfl (by kernel_rfl)
theorem m_slices_Contains_Lint_int_ok {sa0 : List Int} {v : Int} {r : Bool} (hm : m_slices_Contains_Lint_int sa0 v = some r) : RO Try.prog 57 [] [.lst false (ml eInt sa0), .int .i64 v] (.bool r) := by
  refine enterA Try.func57 rfl rfl ?_
  unfold m_slices_Contains_Lint_int at hm
  refine A.RS W0 [] [] [(0, .lst false (ml eInt sa0)), (1, .int .i64 v)] [] (by kernel_rfl) ?_
  obtain ⟨vx_1, h1, hm⟩ := bnd_some hm
  refine A.RS W0 [] [(2, hro (m_slices_Index_Lint_int_ok h1) ck63)] [(4, .bool (decide ((0:Int) ≤ vx_1)))] [] (by kernel_rfl) ?_
  refine A.ret ?_
  obtain rfl := some_inj hm
  exact A.fin W0 [] rfl (by kernel_rfl)
theorem m_slices_Contains_Lapi_Hop_api_Hop_ok {sa0 : List GHop} {v : GHop} {r : Bool} (hm : m_slices_Contains_Lapi_Hop_api_Hop sa0 v = some r) : RO Try.prog 66 [] [.lst false (ml eGHop sa0), .agg [.int .i64 v.From, .int .i64 v.To]] (.bool r) := by
  refine enterA Try.func66 rfl rfl ?_
  unfold m_slices_Contains_Lapi_Hop_api_Hop at hm
  refine A.RS W0 [] [(0, .al 66003)] [(0, .lst false (ml eGHop sa0)), (3, .ptr 66003 0)] [(66003, .cells 66 [.int .i64 v.From, .int .i64 v.To])] (by kernel_rfl) ?_
  obtain ⟨vx_1, h1, hm⟩ := bnd_some hm
  refine A.RS W0 [] [(2, hro (m_slices_Index_Lapi_Hop_api_Hop_ok h1) ck70)] [(4, .bool (decide ((0:Int) ≤ vx_1)))] [] (by kernel_rfl) ?_
  refine A.ret ?_
  obtain rfl := some_inj hm
  exact A.fin W0 [] rfl (by kernel_rfl)
theorem m_topology_in_ok {n : Int} {least : Int} {most : Int} {r : Bool} (hm : m_topology_in n least most = some r) : RO Try.prog 23 [] [.int .i64 n, .int .i64 least, .int .i64 most] (.bool r) := by
  refine enterA Try.func23 rfl rfl ?_
  unfold m_topology_in at hm
  refine A.RS W0 [] [] [(0, .int .i64 n), (1, .int .i64 least), (2, .int .i64 most)] [] (by kernel_rfl) ?_
  refine A.mid [(6, .bool ((decide (least ≤ n)) && (decide (n ≤ most))))] [] (fun hk => ?_) ?_
  · skip
    rcases tf (decide (least ≤ n)) with c1 | c1
    · skip
      exact A.RS W0 [] [(3, hto (bE c1)), (8, hto (andT (q := decide (n ≤ most)) c1))] _ _ (by kernel_rfl) hk
    exact A.RS W0 [] [(3, hto (bE c1)), (8, hto (andF (q := decide (n ≤ most)) c1))] _ _ (by kernel_rfl) hk
  refine A.ret ?_
  obtain rfl := some_inj hm
  exact A.fin W0 [] rfl (by kernel_rfl)
theorem m_topology_compare_ok {a : GLink} {b : GLink} {r : Int} (hm : m_topology_compare a b = some r) : RO Try.prog 21 [] [.agg [.int .i64 a.A, .int .i64 a.B, .int .i64 a.CostA, .int .i64 a.CostB, .int .i64 a.Capacity], .agg [.int .i64 b.A, .int .i64 b.B, .int .i64 b.CostA, .int .i64 b.CostB, .int .i64 b.Capacity]] (.int .i64 r) := by
  refine enterA Try.func21 rfl rfl ?_
  unfold m_topology_compare at hm
  refine A.RS W0 [] [(0, .al 21002), (1, .al 21003)] [(2, .ptr 21002 0), (3, .ptr 21003 0)] [(21002, .cells 44 [.int .i64 a.A, .int .i64 a.B, .int .i64 a.CostA, .int .i64 a.CostB, .int .i64 a.Capacity]), (21003, .cells 44 [.int .i64 b.A, .int .i64 b.B, .int .i64 b.CostA, .int .i64 b.CostB, .int .i64 b.Capacity])] (by kernel_rfl) ?_
  obtain ⟨vx_1, h1, hm⟩ := bnd_some hm
  obtain ⟨vx_2, h2, hm⟩ := bnd_some hm
  obtain ⟨vx_3, h3, hm⟩ := bnd_some hm
  refine A.RS W0 [] [(4, hro (m_cmp_Compare_int_ok h1) ck49), (9, hro (m_cmp_Compare_int_ok h2) ck49), (11, hro (m_cmp_Or_int_ok h3) ck48)] [(4, .int .i64 vx_3)] [] (by kernel_rfl) ?_
  refine A.ret ?_
  obtain rfl := some_inj hm
  exact A.fin W0 [] rfl (by kernel_rfl)
theorem m_topology_byID_ok {ra0 : GRouter} {id : Int} {r : Int} (hm : m_topology_byID ra0 id = some r) : RO Try.prog 37 [] [.agg [.int .i64 ra0.ID, .bool ra0.Capable], .int .i64 id] (.int .i64 r) := by
  refine enterA Try.func37 rfl rfl ?_
  unfold m_topology_byID at hm
  refine A.RS W0 [] [(0, .al 37002)] [(1, .int .i64 id), (2, .ptr 37002 0)] [(37002, .cells 42 [.int .i64 ra0.ID, .bool ra0.Capable])] (by kernel_rfl) ?_
  obtain ⟨vx_1, h1, hm⟩ := bnd_some hm
  refine A.RS W0 [] [(3, hro (m_cmp_Compare_int_ok h1) ck49)] [(4, .int .i64 vx_1)] [] (by kernel_rfl) ?_
  refine A.ret ?_
  obtain rfl := some_inj hm
  exact A.fin W0 [] rfl (by kernel_rfl)
theorem m_topology_Check_1_ok {ra0 : GRouter} {r : Bool} (hm : m_topology_Check_1 ra0 = some r) : RO Try.prog 34 [] [.agg [.int .i64 ra0.ID, .bool ra0.Capable]] (.bool r) := by
  refine enterA Try.func34 rfl rfl ?_
  unfold m_topology_Check_1 at hm
  refine A.RS W0 [] [(0, .al 34001)] [(1, .ptr 34001 0)] [(34001, .cells 42 [.int .i64 ra0.ID, .bool ra0.Capable])] (by kernel_rfl) ?_
  obtain ⟨vx_1, h1, hm⟩ := bnd_some hm
  refine A.RS W0 [] [(2, hro (m_topology_in_ok h1) ck23)] [(2, .bool (!vx_1))] [] (by kernel_rfl) ?_
  refine A.ret ?_
  obtain rfl := some_inj hm
  exact A.fin W0 [] rfl (by kernel_rfl)
theorem m_topology_Check_3_ok {l : GLink} {r : Bool} (hm : m_topology_Check_3 l = some r) : RO Try.prog 39 [] [.agg [.int .i64 l.A, .int .i64 l.B, .int .i64 l.CostA, .int .i64 l.CostB, .int .i64 l.Capacity]] (.bool r) := by
  refine enterA Try.func39 rfl rfl ?_
  unfold m_topology_Check_3 at hm
  refine A.RS W0 [] [(0, .al 39001)] [(1, .ptr 39001 0)] [(39001, .cells 44 [.int .i64 l.A, .int .i64 l.B, .int .i64 l.CostA, .int .i64 l.CostB, .int .i64 l.Capacity])] (by kernel_rfl) ?_
  obtain ⟨vx_1, h1, hm⟩ := bnd_some hm
  rcases cs_some hm with ⟨c1, hm⟩ | ⟨c1, hm⟩
  · skip
    refine A.RS W0 [] [(2, hro (m_topology_in_ok h1) ck23), (4, hto (bE c1))] [(2, .bool true)] [] (by kernel_rfl) ?_
    refine A.ret ?_
    obtain rfl := some_inj hm
    exact A.fin W0 [] rfl (by kernel_rfl)
  obtain ⟨vx_2, h2, hm⟩ := bnd_some hm
  rcases cs_some hm with ⟨c2, hm⟩ | ⟨c2, hm⟩
  · skip
    refine A.RS W0 [] [(2, hro (m_topology_in_ok h1) ck23), (4, hto (bE c1)), (7, hro (m_topology_in_ok h2) ck23), (10, hto (bE c2))] [(2, .bool true)] [] (by kernel_rfl) ?_
    refine A.ret ?_
    obtain rfl := some_inj hm
    exact A.fin W0 [] rfl (by kernel_rfl)
  obtain ⟨vx_3, h3, hm⟩ := bnd_some hm
  refine A.RS W0 [] [(2, hro (m_topology_in_ok h1) ck23), (4, hto (bE c1)), (7, hro (m_topology_in_ok h2) ck23), (10, hto (bE c2)), (13, hro (m_topology_in_ok h3) ck23)] [(2, .bool (!vx_3))] [] (by kernel_rfl) ?_
  refine A.ret ?_
  obtain rfl := some_inj hm
  exact A.fin W0 [] rfl (by kernel_rfl)
theorem m_topology_Check_2_ok {id : Int} {c_0 : GTopology} {r : Bool} (hm : m_topology_Check_2 id c_0 = some r) : RO Try.prog 35 [] [.int .i64 id, .lptr [.lst false (ml eGRouter c_0.Routers), .lst false (ml eGLink c_0.Links)]] (.bool r) := by
  refine enterA Try.func35 rfl rfl ?_
  unfold m_topology_Check_2 at hm
  refine A.RS W0 [] [] [(0, .int .i64 id), (1, .lptr [.lst false (ml eGRouter c_0.Routers), .lst false (ml eGLink c_0.Links)])] [] (by kernel_rfl) ?_
  obtain ⟨vx_1, h1, hm⟩ := bnd_some hm
  refine A.RS W0 [] [(3, hro (m_slices_BinarySearchFunc_Lapi_Router_api_Router_int_ok (cmp_g := 37) (cmp_c := []) (cmp_k := ck37) (cmp_f := fun _ _ _ h => m_topology_byID_ok h) h1) ck36)] [(5, .bool vx_1.2)] [] (by kernel_rfl) ?_
  refine A.RS W0 [] [] [(3, .bool (!vx_1.2))] [] (by kernel_rfl) ?_
  refine A.ret ?_
  obtain rfl := some_inj hm
  exact A.fin W0 [] rfl (by kernel_rfl)
theorem m_topology_Check_4_ok {l : GLink} {c_0 : GTopology} {r : Bool} (hm : m_topology_Check_4 l c_0 = some r) : RO Try.prog 40 [] [.agg [.int .i64 l.A, .int .i64 l.B, .int .i64 l.CostA, .int .i64 l.CostB, .int .i64 l.Capacity], .lptr [.fn 35 [.lptr [.lst false (ml eGRouter c_0.Routers), .lst false (ml eGLink c_0.Links)]]]] (.bool r) := by
  refine enterA Try.func40 rfl rfl ?_
  unfold m_topology_Check_4 at hm
  refine A.RS W0 [] [(0, .al 40002)] [(1, .lptr [.fn 35 [.lptr [.lst false (ml eGRouter c_0.Routers), .lst false (ml eGLink c_0.Links)]]]), (2, .ptr 40002 0)] [(40002, .cells 44 [.int .i64 l.A, .int .i64 l.B, .int .i64 l.CostA, .int .i64 l.CostB, .int .i64 l.Capacity])] (by kernel_rfl) ?_
  obtain ⟨vx_1, h1, hm⟩ := bnd_some hm
  rcases cs_some hm with ⟨c1, hm⟩ | ⟨c1, hm⟩
  · skip
    refine A.RS W0 [] [(3, hle [] (m_topology_Check_2_ok h1) ck35), (4, hto (bE c1))] [(3, .bool true)] [] (by kernel_rfl) ?_
    refine A.ret ?_
    obtain rfl := some_inj hm
    exact A.fin W0 [] rfl (by kernel_rfl)
  obtain ⟨vx_2, h2, hm⟩ := bnd_some hm
  refine A.RS W0 [] [(3, hle [] (m_topology_Check_2_ok h1) ck35), (4, hto (bE c1)), (8, hle [] (m_topology_Check_2_ok h2) ck35)] [(3, .bool vx_2)] [] (by kernel_rfl) ?_
  refine A.ret ?_
  obtain rfl := some_inj hm
  exact A.fin W0 [] rfl (by kernel_rfl)
theorem m_topology_Check_5_ok {l : GLink} {r : Bool} (hm : m_topology_Check_5 l = some r) : RO Try.prog 41 [] [.agg [.int .i64 l.A, .int .i64 l.B, .int .i64 l.CostA, .int .i64 l.CostB, .int .i64 l.Capacity]] (.bool r) := by
  refine enterA Try.func41 rfl rfl ?_
  unfold m_topology_Check_5 at hm
  refine A.RS W0 [] [(0, .al 41001)] [(1, .ptr 41001 0)] [(41001, .cells 44 [.int .i64 l.A, .int .i64 l.B, .int .i64 l.CostA, .int .i64 l.CostB, .int .i64 l.Capacity])] (by kernel_rfl) ?_
  refine A.RS W0 [] [] [(2, .bool (decide (l.B ≤ l.A)))] [] (by kernel_rfl) ?_
  refine A.ret ?_
  obtain rfl := some_inj hm
  exact A.fin W0 [] rfl (by kernel_rfl)
theorem m_topology_Check_ok {t : GTopology} {r : Int} (hm : m_topology_Check t = some r) : RO Try.prog 11 [] [.agg [.lst false (ml eGRouter t.Routers), .lst false (ml eGLink t.Links)]] (.int .i64 r) := by
  refine enterA Try.func11 rfl rfl ?_
  unfold m_topology_Check at hm
  refine A.RS W0 [] [(0, .al 11001)] [(1, .ptr 11001 0)] [(11001, .cells 30 [.lst false (ml eGRouter t.Routers), .lst false (ml eGLink t.Links)])] (by kernel_rfl) ?_
  refine A.seq ?_
  refine A.block ?_
  refine A.mid [(1, .ptr 11001 0), (6, .bool ((decide ((24:Int) < (t.Routers.length:Int))) || (decide ((60:Int) < (t.Links.length:Int)))))] [(11001, .cells 30 [.lst false (ml eGRouter t.Routers), .lst false (ml eGLink t.Links)])] (fun hk => ?_) ?_
  · skip
    rcases tf (decide ((24:Int) < (t.Routers.length:Int))) with c1 | c1
    · skip
      exact A.RS W0 [] [(2, hto (lnE eGRouter t.Routers)), (4, hto (bE c1)), (10, hto (orT (q := decide ((60:Int) < (t.Links.length:Int))) c1))] _ _ (by kernel_rfl) hk
    exact A.RS W0 [] [(2, hto (lnE eGRouter t.Routers)), (4, hto (bE c1)), (7, hto (lnE eGLink t.Links)), (10, hto (orF (q := decide ((60:Int) < (t.Links.length:Int))) c1))] _ _ (by kernel_rfl) hk
  rcases cs_some hm with ⟨c2, hm⟩ | ⟨c2, hm⟩
  · skip
    refine A.cT rfl c2 ?_
    refine A.RS W0 [] [] [(2, .int .i64 (3:Int))] [] (by kernel_rfl) ?_
    refine A.ret ?_
    obtain rfl := some_inj hm
    exact A.fin W0 [] rfl (by kernel_rfl)
  refine A.cF rfl c2 ?_
  obtain ⟨vx_1, h1, hm⟩ := bnd_some hm
  refine A.RS W0 [] [(2, hro (m_slices_ContainsFunc_Lapi_Router_api_Router_ok (f_g := 34) (f_c := []) (f_k := ck34) (f_f := fun _ _ h => m_topology_Check_1_ok h) h1) ck33)] [(1, .ptr 11001 0), (17, .bool vx_1)] [(11001, .cells 30 [.lst false (ml eGRouter t.Routers), .lst false (ml eGLink t.Links)])] (by kernel_rfl) ?_
  rcases cs_some hm with ⟨c3, hm⟩ | ⟨c3, hm⟩
  · skip
    refine A.cT rfl c3 ?_
    refine A.RS W0 [] [] [(2, .int .i64 (2:Int))] [] (by kernel_rfl) ?_
    refine A.ret ?_
    obtain rfl := some_inj hm
    exact A.fin W0 [] rfl (by kernel_rfl)
  refine A.cF rfl c3 ?_
  refine A.skip ?_
  show acode _ _ _ _ _
  refine A.seq ?_
  refine A.RS W0 [] [(2, hto (lnE eGRouter t.Routers))] [(1, .ptr 11001 0), (23, .int .i64 (t.Routers.length:Int)), (24, .int .i64 (0:Int))] [(11001, .cells 30 [.lst false (ml eGRouter t.Routers), .lst false (ml eGLink t.Links)])] (by kernel_rfl) ?_
  refine A.block ?_
  refine A.bC 1 0 rfl rfl rfl fun hb1 => ?_
  obtain ⟨B1, K1, hB1, hK1, hm⟩ := forI_some hm
  refine A.lpI (l := t.Routers) (j0 := 0) (B := B1) (K := K1) hm (fun j1 => fun sg => match sg with | () => [(1, .ptr 11001 0), (23, .int .i64 (t.Routers.length:Int)), (24, .int .i64 (j1 : Int))]) (fun j1 => fun sg => match sg with | () => [(11001, .cells 30 [.lst false (ml eGRouter t.Routers), .lst false (ml eGLink t.Links)])]) ?_ ?_ ?_
  · exact Weak.go [] [] (by kernel_rfl)
  · skip
    rintro j1 e1 Z1 ⟨⟩ hj1 hx1 hm
    rw [hB1] at hm
    refine A.RS W0 [] [] [(1, .ptr 11001 0), (23, .int .i64 (t.Routers.length:Int)), (24, .int .i64 (j1 : Int)), (25, .bool (decide ((j1 : Int) < (t.Routers.length:Int))))] [(11001, .cells 30 [.lst false (ml eGRouter t.Routers), .lst false (ml eGLink t.Links)])] (by kernel_rfl) ?_
    refine A.seq ?_
    refine A.cT rfl (ltT hx1) ?_
    refine A.skip ?_
    show acode _ _ _ _ _
    refine A.seq ?_
    refine A.block ?_
    refine A.RS W0 [] [] [(1, .ptr 11001 0), (23, .int .i64 (t.Routers.length:Int)), (24, .int .i64 (j1 : Int)), (3, .int .i64 (j1 : Int))] [(11001, .cells 30 [.lst false (ml eGRouter t.Routers), .lst false (ml eGLink t.Links)])] (by kernel_rfl) ?_
    obtain ⟨J1, hJ1, hm⟩ := jn_some hm
    refine A.J (J := J1) (r := r) (fun v_1 => [(1, .ptr 11001 0), (23, .int .i64 (t.Routers.length:Int)), (24, .int .i64 (j1 : Int)), (44, .bool v_1)]) (fun v_1 => [(11001, .cells 30 [.lst false (ml eGRouter t.Routers), .lst false (ml eGLink t.Links)])]) ?_ ?_
    · skip
      rcases cs_some hm with ⟨c4, hm⟩ | ⟨c4, hm⟩
      · skip
        obtain ⟨e_1, h2, hm⟩ := bnd_some hm
        refine A.R W0 [] [(2, hto (bE c4)), (7, hix (ix eGRouter h2)), (13, hix (ix eGRouter (elO_nat hx1)))] [(1, .ptr 11001 0), (23, .int .i64 (t.Routers.length:Int)), (24, .int .i64 (j1 : Int)), (44, .bool (decide (e1.ID ≤ e_1.ID)))] [(11001, .cells 30 [.lst false (ml eGRouter t.Routers), .lst false (ml eGLink t.Links)])] (by kernel_rfl) ?_
        exact Exists.intro (decide (e1.ID ≤ e_1.ID)) (And.intro hm (Weak.go [] [] (by kernel_rfl)))
      refine A.R W0 [] [(2, hto (bE c4))] [(1, .ptr 11001 0), (23, .int .i64 (t.Routers.length:Int)), (24, .int .i64 (j1 : Int)), (44, .bool false)] [(11001, .cells 30 [.lst false (ml eGRouter t.Routers), .lst false (ml eGLink t.Links)])] (by kernel_rfl) ?_
      exact Exists.intro false (And.intro hm (Weak.go [] [] (by kernel_rfl)))
    rintro v_1 hm
    rw [hJ1] at hm
    rcases cs_some hm with ⟨c5, hm⟩ | ⟨c5, hm⟩
    · skip
      refine A.cT rfl c5 ?_
      refine A.RS W0 [] [] [(2, .int .i64 (25:Int))] [] (by kernel_rfl) ?_
      refine A.ret ?_
      obtain rfl := some_inj hm
      exact A.fin W0 [] rfl (by kernel_rfl)
    refine A.cF rfl c5 ?_
    refine A.skip ?_
    show acode _ _ _ _ _
    refine A.R W0 [] [(0, hto (inc hx1 hb1))] [(1, .ptr 11001 0), (23, .int .i64 (t.Routers.length:Int)), (24, .int .i64 ((j1 + 1 : Nat) : Int))] [(11001, .cells 30 [.lst false (ml eGRouter t.Routers), .lst false (ml eGLink t.Links)])] (by kernel_rfl) ?_
    exact Exists.intro () (And.intro hm (Weak.go [] [] (by kernel_rfl)))
  rintro j1 ⟨⟩ hj1 hl1 hm
  rw [hK1] at hm
  refine A.RS W0 [] [] [(1, .ptr 11001 0), (23, .int .i64 (t.Routers.length:Int)), (24, .int .i64 (j1 : Int)), (25, .bool (decide ((j1 : Int) < (t.Routers.length:Int))))] [(11001, .cells 30 [.lst false (ml eGRouter t.Routers), .lst false (ml eGLink t.Links)])] (by kernel_rfl) ?_
  refine A.seq ?_
  refine A.cF rfl (ltF hl1) ?_
  refine A.exit ?_
  show acode _ _ _ _ _
  refine A.RS W0 [] [(1, .al 11004)] [(1, .ptr 11001 0), (4, .ptr 11004 0)] [(11001, .cells 30 [.lst false (ml eGRouter t.Routers), .lst false (ml eGLink t.Links)]), (11004, .cells 50 [.fn 35 [.ptr 11001 0]])] (by kernel_rfl) ?_
  refine A.seq ?_
  refine A.block ?_
  obtain ⟨vx_2, h3, hm⟩ := bnd_some hm
  refine A.RS W0 [] [(2, hro (m_slices_ContainsFunc_Lapi_Link_api_Link_ok (f_g := 39) (f_c := []) (f_k := ck39) (f_f := fun _ _ h => m_topology_Check_3_ok h) h3) ck38)] [(1, .ptr 11001 0), (4, .ptr 11004 0), (47, .bool vx_2)] [(11001, .cells 30 [.lst false (ml eGRouter t.Routers), .lst false (ml eGLink t.Links)]), (11004, .cells 50 [.fn 35 [.ptr 11001 0]])] (by kernel_rfl) ?_
  rcases cs_some hm with ⟨c6, hm⟩ | ⟨c6, hm⟩
  · skip
    refine A.cT rfl c6 ?_
    refine A.RS W0 [] [] [(2, .int .i64 (2:Int))] [] (by kernel_rfl) ?_
    refine A.ret ?_
    obtain rfl := some_inj hm
    exact A.fin W0 [] rfl (by kernel_rfl)
  refine A.cF rfl c6 ?_
  obtain ⟨vx_3, h4, hm⟩ := bnd_some hm
  refine A.RS W0 [] [(3, hle [11004, 11001] (m_slices_ContainsFunc_Lapi_Link_api_Link_ok (f_g := 40) (f_c := [.lptr [.fn 35 [.lptr [.lst false (ml eGRouter t.Routers), .lst false (ml eGLink t.Links)]]]]) (f_k := ck40) (f_f := fun _ _ h => m_topology_Check_4_ok h) h4) ck38)] [(1, .ptr 11001 0), (51, .bool vx_3)] [(11001, .cells 30 [.lst false (ml eGRouter t.Routers), .lst false (ml eGLink t.Links)])] (by kernel_rfl) ?_
  rcases cs_some hm with ⟨c7, hm⟩ | ⟨c7, hm⟩
  · skip
    refine A.cT rfl c7 ?_
    refine A.RS W0 [] [] [(2, .int .i64 (4:Int))] [] (by kernel_rfl) ?_
    refine A.ret ?_
    obtain rfl := some_inj hm
    exact A.fin W0 [] rfl (by kernel_rfl)
  refine A.cF rfl c7 ?_
  obtain ⟨vx_4, h5, hm⟩ := bnd_some hm
  refine A.RS W0 [] [(2, hro (m_slices_ContainsFunc_Lapi_Link_api_Link_ok (f_g := 41) (f_c := []) (f_k := ck41) (f_f := fun _ _ h => m_topology_Check_5_ok h) h5) ck38)] [(1, .ptr 11001 0), (56, .bool vx_4)] [(11001, .cells 30 [.lst false (ml eGRouter t.Routers), .lst false (ml eGLink t.Links)])] (by kernel_rfl) ?_
  rcases cs_some hm with ⟨c8, hm⟩ | ⟨c8, hm⟩
  · skip
    refine A.cT rfl c8 ?_
    refine A.RS W0 [] [] [(2, .int .i64 (8:Int))] [] (by kernel_rfl) ?_
    refine A.ret ?_
    obtain rfl := some_inj hm
    exact A.fin W0 [] rfl (by kernel_rfl)
  refine A.cF rfl c8 ?_
  refine A.skip ?_
  show acode _ _ _ _ _
  refine A.seq ?_
  refine A.RS W0 [] [(2, hto (lnE eGLink t.Links))] [(1, .ptr 11001 0), (62, .int .i64 (t.Links.length:Int)), (63, .int .i64 (0:Int))] [(11001, .cells 30 [.lst false (ml eGRouter t.Routers), .lst false (ml eGLink t.Links)])] (by kernel_rfl) ?_
  refine A.block ?_
  refine A.bC 1 1 rfl rfl rfl fun hb2 => ?_
  obtain ⟨B2, K2, hB2, hK2, hm⟩ := forI_some hm
  refine A.lpI (l := t.Links) (j0 := 0) (B := B2) (K := K2) hm (fun j2 => fun sg => match sg with | () => [(1, .ptr 11001 0), (62, .int .i64 (t.Links.length:Int)), (63, .int .i64 (j2 : Int))]) (fun j2 => fun sg => match sg with | () => [(11001, .cells 30 [.lst false (ml eGRouter t.Routers), .lst false (ml eGLink t.Links)])]) ?_ ?_ ?_
  · exact Weak.go [] [] (by kernel_rfl)
  · skip
    rintro j2 e2 Z2 ⟨⟩ hj2 hx2 hm
    rw [hB2] at hm
    refine A.RS W0 [] [] [(1, .ptr 11001 0), (62, .int .i64 (t.Links.length:Int)), (63, .int .i64 (j2 : Int)), (64, .bool (decide ((j2 : Int) < (t.Links.length:Int))))] [(11001, .cells 30 [.lst false (ml eGRouter t.Routers), .lst false (ml eGLink t.Links)])] (by kernel_rfl) ?_
    refine A.seq ?_
    refine A.cT rfl (ltT hx2) ?_
    refine A.skip ?_
    show acode _ _ _ _ _
    refine A.seq ?_
    refine A.block ?_
    refine A.RS W0 [] [] [(1, .ptr 11001 0), (62, .int .i64 (t.Links.length:Int)), (63, .int .i64 (j2 : Int)), (5, .int .i64 (j2 : Int))] [(11001, .cells 30 [.lst false (ml eGRouter t.Routers), .lst false (ml eGLink t.Links)])] (by kernel_rfl) ?_
    obtain ⟨J2, hJ2, hm⟩ := jn_some hm
    refine A.J (J := J2) (r := r) (fun v_2 => [(1, .ptr 11001 0), (62, .int .i64 (t.Links.length:Int)), (63, .int .i64 (j2 : Int)), (82, .bool v_2)]) (fun v_2 => [(11001, .cells 30 [.lst false (ml eGRouter t.Routers), .lst false (ml eGLink t.Links)])]) ?_ ?_
    · skip
      rcases cs_some hm with ⟨c9, hm⟩ | ⟨c9, hm⟩
      · skip
        obtain ⟨e_2, h6, hm⟩ := bnd_some hm
        obtain ⟨vx_5, h7, hm⟩ := bnd_some hm
        refine A.R W0 [] [(2, hto (bE c9)), (7, hix (ix eGLink h6)), (12, hix (ix eGLink (elO_nat hx2))), (14, hro (m_topology_compare_ok h7) ck21)] [(1, .ptr 11001 0), (62, .int .i64 (t.Links.length:Int)), (63, .int .i64 (j2 : Int)), (82, .bool (decide ((0:Int) ≤ vx_5)))] [(11001, .cells 30 [.lst false (ml eGRouter t.Routers), .lst false (ml eGLink t.Links)])] (by kernel_rfl) ?_
        exact Exists.intro (decide ((0:Int) ≤ vx_5)) (And.intro hm (Weak.go [] [] (by kernel_rfl)))
      refine A.R W0 [] [(2, hto (bE c9))] [(1, .ptr 11001 0), (62, .int .i64 (t.Links.length:Int)), (63, .int .i64 (j2 : Int)), (82, .bool false)] [(11001, .cells 30 [.lst false (ml eGRouter t.Routers), .lst false (ml eGLink t.Links)])] (by kernel_rfl) ?_
      exact Exists.intro false (And.intro hm (Weak.go [] [] (by kernel_rfl)))
    rintro v_2 hm
    rw [hJ2] at hm
    rcases cs_some hm with ⟨c10, hm⟩ | ⟨c10, hm⟩
    · skip
      refine A.cT rfl c10 ?_
      refine A.RS W0 [] [] [(2, .int .i64 (25:Int))] [] (by kernel_rfl) ?_
      refine A.ret ?_
      obtain rfl := some_inj hm
      exact A.fin W0 [] rfl (by kernel_rfl)
    refine A.cF rfl c10 ?_
    refine A.skip ?_
    show acode _ _ _ _ _
    refine A.R W0 [] [(0, hto (inc hx2 hb2))] [(1, .ptr 11001 0), (62, .int .i64 (t.Links.length:Int)), (63, .int .i64 ((j2 + 1 : Nat) : Int))] [(11001, .cells 30 [.lst false (ml eGRouter t.Routers), .lst false (ml eGLink t.Links)])] (by kernel_rfl) ?_
    exact Exists.intro () (And.intro hm (Weak.go [] [] (by kernel_rfl)))
  rintro j2 ⟨⟩ hj2 hl2 hm
  rw [hK2] at hm
  refine A.RS W0 [] [] [(1, .ptr 11001 0), (62, .int .i64 (t.Links.length:Int)), (63, .int .i64 (j2 : Int)), (64, .bool (decide ((j2 : Int) < (t.Links.length:Int))))] [(11001, .cells 30 [.lst false (ml eGRouter t.Routers), .lst false (ml eGLink t.Links)])] (by kernel_rfl) ?_
  refine A.seq ?_
  refine A.cF rfl (ltF hl2) ?_
  refine A.exit ?_
  show acode _ _ _ _ _
  refine A.RS W0 [] [] [(2, .int .i64 (0:Int))] [] (by kernel_rfl) ?_
  refine A.ret ?_
  obtain rfl := some_inj hm
  exact A.fin W0 [] rfl (by kernel_rfl)
theorem m_topology_valid_ok {t : GTopology} {r : Bool} (hm : m_topology_valid t = some r) : RO Try.prog 19 [] [.agg [.lst false (ml eGRouter t.Routers), .lst false (ml eGLink t.Links)]] (.bool r) := by
  refine enterA Try.func19 rfl rfl ?_
  unfold m_topology_valid at hm
  refine A.RS W0 [] [(0, .al 19001)] [(1, .ptr 19001 0)] [(19001, .cells 30 [.lst false (ml eGRouter t.Routers), .lst false (ml eGLink t.Links)])] (by kernel_rfl) ?_
  obtain ⟨vx_1, h1, hm⟩ := bnd_some hm
  refine A.RS W0 [] [(1, hro (m_topology_Check_ok h1) ck11)] [(2, .bool (decide (vx_1 = (0:Int))))] [] (by kernel_rfl) ?_
  refine A.ret ?_
  obtain rfl := some_inj hm
  exact A.fin W0 [] rfl (by kernel_rfl)
theorem m_topology_find_ok {t : GTopology} {router : Int} {r : GRouter × Bool} (hm : m_topology_find t router = some r) : RO Try.prog 50 [] [.agg [.lst false (ml eGRouter t.Routers), .lst false (ml eGLink t.Links)], .int .i64 router] (.tup [.agg [.int .i64 r.1.ID, .bool r.1.Capable], .bool r.2]) := by
  refine enterA Try.func50 rfl rfl ?_
  unfold m_topology_find at hm
  refine A.RS W0 [] [(0, .al 50002), (1, .al 50004)] [(1, .int .i64 router), (2, .ptr 50002 0), (4, .ptr 50004 0)] [(50002, .cells 30 [.lst false (ml eGRouter t.Routers), .lst false (ml eGLink t.Links)]), (50004, .cells 42 [.int .i64 (0:Int), .bool false])] (by kernel_rfl) ?_
  obtain ⟨vx_1, h1, hm⟩ := bnd_some hm
  refine A.RS W0 [] [(3, hro (m_slices_BinarySearchFunc_Lapi_Router_api_Router_int_ok (cmp_g := 37) (cmp_c := []) (cmp_k := ck37) (cmp_f := fun _ _ _ h => m_topology_byID_ok h) h1) ck36)] [(2, .ptr 50002 0), (4, .ptr 50004 0), (6, .int .i64 vx_1.1), (7, .bool vx_1.2)] [(50002, .cells 30 [.lst false (ml eGRouter t.Routers), .lst false (ml eGLink t.Links)]), (50004, .cells 42 [.int .i64 (0:Int), .bool false])] (by kernel_rfl) ?_
  refine A.seq ?_
  refine A.RS W0 [] [] [(2, .ptr 50002 0), (4, .ptr 50004 0), (6, .int .i64 vx_1.1), (16, .bool (!vx_1.2))] [(50002, .cells 30 [.lst false (ml eGRouter t.Routers), .lst false (ml eGLink t.Links)]), (50004, .cells 42 [.int .i64 (0:Int), .bool false])] (by kernel_rfl) ?_
  rcases cs_some hm with ⟨c1, hm⟩ | ⟨c1, hm⟩
  · skip
    refine A.cT rfl c1 ?_
    refine A.RS W0 [] [] [(4, .ptr 50004 0), (5, .bool false)] [(50004, .cells 42 [.int .i64 (0:Int), .bool false])] (by kernel_rfl) ?_
    refine A.ret ?_
    obtain rfl := some_inj hm
    exact A.fin W0 [] rfl (by kernel_rfl)
  refine A.cF rfl c1 ?_
  refine A.skip ?_
  show acode _ _ _ _ _
  obtain ⟨e_1, h2, hm⟩ := bnd_some hm
  refine A.RS W0 [] [(3, hix (ix eGRouter h2))] [(4, .ptr 50004 0), (5, .bool true)] [(50004, .cells 42 [.int .i64 e_1.ID, .bool e_1.Capable])] (by kernel_rfl) ?_
  refine A.ret ?_
  obtain rfl := some_inj hm
  exact A.fin W0 [] rfl (by kernel_rfl)
theorem m_topology_Has_ok {t : GTopology} {router : Int} {r : Bool} (hm : m_topology_Has t router = some r) : RO Try.prog 22 [] [.agg [.lst false (ml eGRouter t.Routers), .lst false (ml eGLink t.Links)], .int .i64 router] (.bool r) := by
  refine enterA Try.func22 rfl rfl ?_
  unfold m_topology_Has at hm
  refine A.RS W0 [] [(0, .al 22002)] [(1, .int .i64 router), (2, .ptr 22002 0)] [(22002, .cells 30 [.lst false (ml eGRouter t.Routers), .lst false (ml eGLink t.Links)])] (by kernel_rfl) ?_
  obtain ⟨vx_1, h1, hm⟩ := bnd_some hm
  refine A.RS W0 [] [(2, hro (m_topology_find_ok h1) ck50), (6, .al 22005)] [(2, .ptr 22002 0), (6, .bool vx_1.2)] [(22002, .cells 30 [.lst false (ml eGRouter t.Routers), .lst false (ml eGLink t.Links)])] (by kernel_rfl) ?_
  obtain ⟨vx_2, h2, hm⟩ := bnd_some hm
  rcases cs_some hm with ⟨c1, hm⟩ | ⟨c1, hm⟩
  · skip
    refine A.RS W0 [] [(1, hro (m_topology_valid_ok h2) ck19), (2, hto (bE c1))] [(4, .bool vx_1.2)] [] (by kernel_rfl) ?_
    refine A.ret ?_
    obtain rfl := some_inj hm
    exact A.fin W0 [] rfl (by kernel_rfl)
  refine A.RS W0 [] [(1, hro (m_topology_valid_ok h2) ck19), (2, hto (bE c1))] [(4, .bool false)] [] (by kernel_rfl) ?_
  refine A.ret ?_
  obtain rfl := some_inj hm
  exact A.fin W0 [] rfl (by kernel_rfl)
theorem m_topology_Without_ok {t : GTopology} {f : GFailure} {r : GTopology} (hm : m_topology_Without t f = some r) : RO Try.prog 59 [] [.agg [.lst false (ml eGRouter t.Routers), .lst false (ml eGLink t.Links)], .agg [.lst false (ml eGHop f.Links), .lst false (ml eInt f.Routers)]] (.agg [.lst false (ml eGRouter r.Routers), .lst false (ml eGLink r.Links)]) := by
  refine enterA Try.func59 rfl rfl ?_
  unfold m_topology_Without at hm
  refine A.RS W0 [] [(0, .al 59002), (1, .al 59003), (2, .al 59004)] [(2, .ptr 59002 0), (3, .ptr 59003 0), (4, .ptr 59004 0)] [(59002, .cells 30 [.lst false (ml eGRouter t.Routers), .lst false (ml eGLink t.Links)]), (59003, .cells 69 [.lst false (ml eGHop f.Links), .lst false (ml eInt f.Routers)]), (59004, .cells 30 [.nils, .nils])] (by kernel_rfl) ?_
  refine A.RS W0 [] [(0, .al 59005)] [(2, .ptr 59002 0), (3, .ptr 59003 0), (4, .ptr 59004 0), (5, .ptr 59005 0)] [(59002, .cells 30 [.lst false (ml eGRouter t.Routers), .lst false (ml eGLink t.Links)]), (59003, .cells 69 [.lst false (ml eGHop f.Links), .lst false (ml eInt f.Routers)]), (59004, .cells 30 [.nils, .nils]), (59005, .cells 30 [.nils, .nils])] (by kernel_rfl) ?_
  refine A.seq ?_
  obtain ⟨vx_1, h1, hm⟩ := bnd_some hm
  refine A.RS W0 [] [(1, hro (m_topology_valid_ok h1) ck19)] [(2, .ptr 59002 0), (3, .ptr 59003 0), (4, .ptr 59004 0), (5, .ptr 59005 0), (13, .bool (!vx_1))] [(59002, .cells 30 [.lst false (ml eGRouter t.Routers), .lst false (ml eGLink t.Links)]), (59003, .cells 69 [.lst false (ml eGHop f.Links), .lst false (ml eInt f.Routers)]), (59004, .cells 30 [.nils, .nils]), (59005, .cells 30 [.nils, .nils])] (by kernel_rfl) ?_
  rcases cs_some hm with ⟨c1, hm⟩ | ⟨c1, hm⟩
  · skip
    refine A.cT rfl c1 ?_
    refine A.RS W0 [] [] [(4, .ptr 59004 0)] [(59004, .cells 30 [.nils, .nils])] (by kernel_rfl) ?_
    refine A.ret ?_
    obtain rfl := some_inj hm
    exact A.fin W0 [] rfl (by kernel_rfl)
  refine A.cF rfl c1 ?_
  refine A.skip ?_
  show acode _ _ _ _ _
  refine A.seq ?_
  refine A.RS W0 [] [(2, hto (lnE eGRouter t.Routers))] [(2, .ptr 59002 0), (3, .ptr 59003 0), (4, .ptr 59004 0), (5, .ptr 59005 0), (16, .lst false (ml eGRouter t.Routers)), (17, .int .i64 (t.Routers.length:Int)), (18, .int .i64 (0:Int))] [(59002, .cells 30 [.lst false (ml eGRouter t.Routers), .lst false (ml eGLink t.Links)]), (59003, .cells 69 [.lst false (ml eGHop f.Links), .lst false (ml eInt f.Routers)]), (59004, .cells 30 [.nils, .nils]), (59005, .cells 30 [.nils, .nils])] (by kernel_rfl) ?_
  refine A.block ?_
  refine A.bS 16 rfl fun hb1 => ?_
  obtain ⟨B1, K1, hB1, hK1, hm⟩ := forI_some hm
  refine A.lpI (l := t.Routers) (j0 := 0) (B := B1) (K := K1) hm (fun j1 => fun m_1 => [(2, .ptr 59002 0), (3, .ptr 59003 0), (4, .ptr 59004 0), (5, .ptr 59005 0), (16, .lst false (ml eGRouter t.Routers)), (17, .int .i64 (t.Routers.length:Int)), (18, .int .i64 (j1 : Int))]) (fun j1 => fun m_1 => [(59002, .cells 30 [.lst false (ml eGRouter t.Routers), .lst false (ml eGLink t.Links)]), (59003, .cells 69 [.lst false (ml eGHop f.Links), .lst false (ml eInt f.Routers)]), (59004, .cells 30 [.nils, .nils]), (59005, .cells 30 [.own 705900500, .nils]), (705900500, .slice 42 2 (ml eGRouter m_1) 0 false)]) ?_ ?_ ?_
  · exact Weak.go [.ac 59005 705900500 42 2 0] [] (by kernel_rfl)
  · skip
    rintro j1 e1 Z1 m_1 hj1 hx1 hm
    rw [hB1] at hm
    refine A.RS W0 [] [] [(2, .ptr 59002 0), (3, .ptr 59003 0), (4, .ptr 59004 0), (5, .ptr 59005 0), (16, .lst false (ml eGRouter t.Routers)), (17, .int .i64 (t.Routers.length:Int)), (18, .int .i64 (j1 : Int)), (19, .bool (decide ((j1 : Int) < (t.Routers.length:Int))))] [(59002, .cells 30 [.lst false (ml eGRouter t.Routers), .lst false (ml eGLink t.Links)]), (59003, .cells 69 [.lst false (ml eGHop f.Links), .lst false (ml eInt f.Routers)]), (59004, .cells 30 [.nils, .nils]), (59005, .cells 30 [.own 705900500, .nils]), (705900500, .slice 42 2 (ml eGRouter m_1) 0 false)] (by kernel_rfl) ?_
    refine A.seq ?_
    refine A.cT rfl (ltT hx1) ?_
    refine A.skip ?_
    show acode _ _ _ _ _
    obtain ⟨J1, hJ1, hm⟩ := jn_some hm
    refine A.J (J := J1) (r := r) (fun m_2 => [(2, .ptr 59002 0), (3, .ptr 59003 0), (4, .ptr 59004 0), (5, .ptr 59005 0), (16, .lst false (ml eGRouter t.Routers)), (17, .int .i64 (t.Routers.length:Int)), (18, .int .i64 (j1 : Int))]) (fun m_2 => [(59002, .cells 30 [.lst false (ml eGRouter t.Routers), .lst false (ml eGLink t.Links)]), (59003, .cells 69 [.lst false (ml eGHop f.Links), .lst false (ml eInt f.Routers)]), (59004, .cells 30 [.nils, .nils]), (59005, .cells 30 [.own 705900500, .nils]), (705900500, .slice 42 2 (ml eGRouter m_2) 0 false)]) ?_ ?_
    · skip
      refine A.block ?_
      refine A.RS W0 [] [(0, hix (ix eGRouter (elO_nat hx1))), (2, .al 59007)] [(2, .ptr 59002 0), (3, .ptr 59003 0), (4, .ptr 59004 0), (5, .ptr 59005 0), (16, .lst false (ml eGRouter t.Routers)), (17, .int .i64 (t.Routers.length:Int)), (18, .int .i64 (j1 : Int)), (7, .ptr 59007 0)] [(59002, .cells 30 [.lst false (ml eGRouter t.Routers), .lst false (ml eGLink t.Links)]), (59003, .cells 69 [.lst false (ml eGHop f.Links), .lst false (ml eInt f.Routers)]), (59004, .cells 30 [.nils, .nils]), (59005, .cells 30 [.own 705900500, .nils]), (705900500, .slice 42 2 (ml eGRouter m_1) 0 false), (59007, .cells 42 [.int .i64 e1.ID, .bool e1.Capable])] (by kernel_rfl) ?_
      obtain ⟨vx_2, h2, hm⟩ := bnd_some hm
      refine A.RS W0 [] [(4, hro (m_slices_Contains_Lint_int_ok h2) ck57)] [(2, .ptr 59002 0), (3, .ptr 59003 0), (4, .ptr 59004 0), (5, .ptr 59005 0), (16, .lst false (ml eGRouter t.Routers)), (17, .int .i64 (t.Routers.length:Int)), (18, .int .i64 (j1 : Int)), (7, .ptr 59007 0), (27, .bool (!vx_2))] [(59002, .cells 30 [.lst false (ml eGRouter t.Routers), .lst false (ml eGLink t.Links)]), (59003, .cells 69 [.lst false (ml eGHop f.Links), .lst false (ml eInt f.Routers)]), (59004, .cells 30 [.nils, .nils]), (59005, .cells 30 [.own 705900500, .nils]), (705900500, .slice 42 2 (ml eGRouter m_1) 0 false), (59007, .cells 42 [.int .i64 e1.ID, .bool e1.Capable])] (by kernel_rfl) ?_
      rcases cs_some hm with ⟨c2, hm⟩ | ⟨c2, hm⟩
      · skip
        refine A.cT rfl c2 ?_
        obtain ⟨l_1, h3, hm⟩ := bnd_some hm
        refine A.R W0 [] [(4, hap 59532 (ap eGRouter (bytes := 16) (by decide) h3))] [(2, .ptr 59002 0), (3, .ptr 59003 0), (4, .ptr 59004 0), (5, .ptr 59005 0), (16, .lst false (ml eGRouter t.Routers)), (17, .int .i64 (t.Routers.length:Int)), (18, .int .i64 (j1 : Int))] [(59002, .cells 30 [.lst false (ml eGRouter t.Routers), .lst false (ml eGLink t.Links)]), (59003, .cells 69 [.lst false (ml eGHop f.Links), .lst false (ml eInt f.Routers)]), (59004, .cells 30 [.nils, .nils]), (59005, .cells 30 [.own 59532, .nils]), (59532, .slice 42 2 (ml eGRouter l_1) 0 false)] (by kernel_rfl) ?_
        exact Exists.intro l_1 (And.intro hm (Weak.go [.sw 59532 705900500] [] (by kernel_rfl)))
      refine A.cF rfl c2 ?_
      refine A.skip ?_
      exact Exists.intro m_1 (And.intro hm (Weak.go [] [] (by kernel_rfl)))
    rintro m_2 hm
    rw [hJ1] at hm
    refine A.R W0 [] [(0, hto (inc hx1 hb1))] [(2, .ptr 59002 0), (3, .ptr 59003 0), (4, .ptr 59004 0), (5, .ptr 59005 0), (16, .lst false (ml eGRouter t.Routers)), (17, .int .i64 (t.Routers.length:Int)), (18, .int .i64 ((j1 + 1 : Nat) : Int))] [(59002, .cells 30 [.lst false (ml eGRouter t.Routers), .lst false (ml eGLink t.Links)]), (59003, .cells 69 [.lst false (ml eGHop f.Links), .lst false (ml eInt f.Routers)]), (59004, .cells 30 [.nils, .nils]), (59005, .cells 30 [.own 705900500, .nils]), (705900500, .slice 42 2 (ml eGRouter m_2) 0 false)] (by kernel_rfl) ?_
    exact Exists.intro m_2 (And.intro hm (Weak.go [] [] (by kernel_rfl)))
  rintro j1 m_1 hj1 hl1 hm
  rw [hK1] at hm
  refine A.RS W0 [] [] [(2, .ptr 59002 0), (3, .ptr 59003 0), (4, .ptr 59004 0), (5, .ptr 59005 0), (16, .lst false (ml eGRouter t.Routers)), (17, .int .i64 (t.Routers.length:Int)), (18, .int .i64 (j1 : Int)), (19, .bool (decide ((j1 : Int) < (t.Routers.length:Int))))] [(59002, .cells 30 [.lst false (ml eGRouter t.Routers), .lst false (ml eGLink t.Links)]), (59003, .cells 69 [.lst false (ml eGHop f.Links), .lst false (ml eInt f.Routers)]), (59004, .cells 30 [.nils, .nils]), (59005, .cells 30 [.own 705900500, .nils]), (705900500, .slice 42 2 (ml eGRouter m_1) 0 false)] (by kernel_rfl) ?_
  refine A.seq ?_
  refine A.cF rfl (ltF hl1) ?_
  refine A.exit ?_
  show acode _ _ _ _ _
  refine A.seq ?_
  refine A.RS W0 [] [(2, hto (lnE eGLink t.Links))] [(3, .ptr 59003 0), (4, .ptr 59004 0), (5, .ptr 59005 0), (36, .lst false (ml eGLink t.Links)), (37, .int .i64 (t.Links.length:Int)), (38, .int .i64 (0:Int))] [(59003, .cells 69 [.lst false (ml eGHop f.Links), .lst false (ml eInt f.Routers)]), (59004, .cells 30 [.nils, .nils]), (59005, .cells 30 [.own 705900500, .nils]), (705900500, .slice 42 2 (ml eGRouter m_1) 0 false)] (by kernel_rfl) ?_
  refine A.block ?_
  refine A.bS 36 rfl fun hb2 => ?_
  obtain ⟨B2, K2, hB2, hK2, hm⟩ := forI_some hm
  refine A.lpI (l := t.Links) (j0 := 0) (B := B2) (K := K2) hm (fun j2 => fun m_3 => [(3, .ptr 59003 0), (4, .ptr 59004 0), (5, .ptr 59005 0), (36, .lst false (ml eGLink t.Links)), (37, .int .i64 (t.Links.length:Int)), (38, .int .i64 (j2 : Int))]) (fun j2 => fun m_3 => [(59003, .cells 69 [.lst false (ml eGHop f.Links), .lst false (ml eInt f.Routers)]), (59004, .cells 30 [.nils, .nils]), (59005, .cells 30 [.own 705900500, .own 705900501]), (705900500, .slice 42 2 (ml eGRouter m_1) 0 false), (705900501, .slice 44 5 (ml eGLink m_3) 0 false)]) ?_ ?_ ?_
  · exact Weak.go [.ac 59005 705900501 44 5 1] [] (by kernel_rfl)
  · skip
    rintro j2 e2 Z2 m_3 hj2 hx2 hm
    rw [hB2] at hm
    refine A.RS W0 [] [] [(3, .ptr 59003 0), (4, .ptr 59004 0), (5, .ptr 59005 0), (36, .lst false (ml eGLink t.Links)), (37, .int .i64 (t.Links.length:Int)), (38, .int .i64 (j2 : Int)), (39, .bool (decide ((j2 : Int) < (t.Links.length:Int))))] [(59003, .cells 69 [.lst false (ml eGHop f.Links), .lst false (ml eInt f.Routers)]), (59004, .cells 30 [.nils, .nils]), (59005, .cells 30 [.own 705900500, .own 705900501]), (705900500, .slice 42 2 (ml eGRouter m_1) 0 false), (705900501, .slice 44 5 (ml eGLink m_3) 0 false)] (by kernel_rfl) ?_
    refine A.seq ?_
    refine A.cT rfl (ltT hx2) ?_
    refine A.skip ?_
    show acode _ _ _ _ _
    obtain ⟨J2, hJ2, hm⟩ := jn_some hm
    refine A.J (J := J2) (r := r) (fun m_4 => [(3, .ptr 59003 0), (4, .ptr 59004 0), (5, .ptr 59005 0), (36, .lst false (ml eGLink t.Links)), (37, .int .i64 (t.Links.length:Int)), (38, .int .i64 (j2 : Int))]) (fun m_4 => [(59003, .cells 69 [.lst false (ml eGHop f.Links), .lst false (ml eInt f.Routers)]), (59004, .cells 30 [.nils, .nils]), (59005, .cells 30 [.own 705900500, .own 705900501]), (705900500, .slice 42 2 (ml eGRouter m_1) 0 false), (705900501, .slice 44 5 (ml eGLink m_4) 0 false)]) ?_ ?_
    · skip
      refine A.block ?_
      refine A.RS W0 [] [(0, hix (ix eGLink (elO_nat hx2))), (2, .al 59009)] [(3, .ptr 59003 0), (4, .ptr 59004 0), (5, .ptr 59005 0), (36, .lst false (ml eGLink t.Links)), (37, .int .i64 (t.Links.length:Int)), (38, .int .i64 (j2 : Int)), (9, .ptr 59009 0)] [(59003, .cells 69 [.lst false (ml eGHop f.Links), .lst false (ml eInt f.Routers)]), (59004, .cells 30 [.nils, .nils]), (59005, .cells 30 [.own 705900500, .own 705900501]), (705900500, .slice 42 2 (ml eGRouter m_1) 0 false), (705900501, .slice 44 5 (ml eGLink m_3) 0 false), (59009, .cells 44 [.int .i64 e2.A, .int .i64 e2.B, .int .i64 e2.CostA, .int .i64 e2.CostB, .int .i64 e2.Capacity])] (by kernel_rfl) ?_
      obtain ⟨J3, hJ3, hm⟩ := jn_some hm
      refine A.J (J := J3) (r := r) (fun gone_1 => [(3, .ptr 59003 0), (4, .ptr 59004 0), (5, .ptr 59005 0), (9, .ptr 59009 0), (10, .bool gone_1), (36, .lst false (ml eGLink t.Links)), (37, .int .i64 (t.Links.length:Int)), (38, .int .i64 (j2 : Int))]) (fun gone_1 => [(59003, .cells 69 [.lst false (ml eGHop f.Links), .lst false (ml eInt f.Routers)]), (59004, .cells 30 [.nils, .nils]), (59005, .cells 30 [.own 705900500, .own 705900501]), (705900500, .slice 42 2 (ml eGRouter m_1) 0 false), (705900501, .slice 44 5 (ml eGLink m_3) 0 false), (59009, .cells 44 [.int .i64 e2.A, .int .i64 e2.B, .int .i64 e2.CostA, .int .i64 e2.CostB, .int .i64 e2.Capacity])]) ?_ ?_
      · skip
        obtain ⟨vx_3, h4, hm⟩ := bnd_some hm
        rcases cs_some hm with ⟨c3, hm⟩ | ⟨c3, hm⟩
        · skip
          refine A.R W0 [] [(4, hro (m_slices_Contains_Lint_int_ok h4) ck57), (5, hto (bE c3))] [(3, .ptr 59003 0), (4, .ptr 59004 0), (5, .ptr 59005 0), (36, .lst false (ml eGLink t.Links)), (37, .int .i64 (t.Links.length:Int)), (38, .int .i64 (j2 : Int)), (9, .ptr 59009 0), (10, .bool true)] [(59003, .cells 69 [.lst false (ml eGHop f.Links), .lst false (ml eInt f.Routers)]), (59004, .cells 30 [.nils, .nils]), (59005, .cells 30 [.own 705900500, .own 705900501]), (705900500, .slice 42 2 (ml eGRouter m_1) 0 false), (705900501, .slice 44 5 (ml eGLink m_3) 0 false), (59009, .cells 44 [.int .i64 e2.A, .int .i64 e2.B, .int .i64 e2.CostA, .int .i64 e2.CostB, .int .i64 e2.Capacity])] (by kernel_rfl) ?_
          exact Exists.intro true (And.intro hm (Weak.go [] [] (by kernel_rfl)))
        obtain ⟨vx_4, h5, hm⟩ := bnd_some hm
        rcases cs_some hm with ⟨c4, hm⟩ | ⟨c4, hm⟩
        · skip
          refine A.R W0 [] [(4, hro (m_slices_Contains_Lint_int_ok h4) ck57), (5, hto (bE c3)), (10, hro (m_slices_Contains_Lint_int_ok h5) ck57), (12, hto (bE c4))] [(3, .ptr 59003 0), (4, .ptr 59004 0), (5, .ptr 59005 0), (36, .lst false (ml eGLink t.Links)), (37, .int .i64 (t.Links.length:Int)), (38, .int .i64 (j2 : Int)), (9, .ptr 59009 0), (10, .bool true)] [(59003, .cells 69 [.lst false (ml eGHop f.Links), .lst false (ml eInt f.Routers)]), (59004, .cells 30 [.nils, .nils]), (59005, .cells 30 [.own 705900500, .own 705900501]), (705900500, .slice 42 2 (ml eGRouter m_1) 0 false), (705900501, .slice 44 5 (ml eGLink m_3) 0 false), (59009, .cells 44 [.int .i64 e2.A, .int .i64 e2.B, .int .i64 e2.CostA, .int .i64 e2.CostB, .int .i64 e2.Capacity])] (by kernel_rfl) ?_
          exact Exists.intro true (And.intro hm (Weak.go [] [] (by kernel_rfl)))
        obtain ⟨vx_5, h6, hm⟩ := bnd_some hm
        rcases cs_some hm with ⟨c5, hm⟩ | ⟨c5, hm⟩
        · skip
          refine A.R W0 [] [(4, hro (m_slices_Contains_Lint_int_ok h4) ck57), (5, hto (bE c3)), (10, hro (m_slices_Contains_Lint_int_ok h5) ck57), (12, hto (bE c4)), (20, hro (m_slices_Contains_Lapi_Hop_api_Hop_ok h6) ck66), (22, hto (bE c5))] [(3, .ptr 59003 0), (4, .ptr 59004 0), (5, .ptr 59005 0), (36, .lst false (ml eGLink t.Links)), (37, .int .i64 (t.Links.length:Int)), (38, .int .i64 (j2 : Int)), (9, .ptr 59009 0), (10, .bool true)] [(59003, .cells 69 [.lst false (ml eGHop f.Links), .lst false (ml eInt f.Routers)]), (59004, .cells 30 [.nils, .nils]), (59005, .cells 30 [.own 705900500, .own 705900501]), (705900500, .slice 42 2 (ml eGRouter m_1) 0 false), (705900501, .slice 44 5 (ml eGLink m_3) 0 false), (59009, .cells 44 [.int .i64 e2.A, .int .i64 e2.B, .int .i64 e2.CostA, .int .i64 e2.CostB, .int .i64 e2.Capacity])] (by kernel_rfl) ?_
          exact Exists.intro true (And.intro hm (Weak.go [] [] (by kernel_rfl)))
        obtain ⟨vx_6, h7, hm⟩ := bnd_some hm
        refine A.R W0 [] [(4, hro (m_slices_Contains_Lint_int_ok h4) ck57), (5, hto (bE c3)), (10, hro (m_slices_Contains_Lint_int_ok h5) ck57), (12, hto (bE c4)), (20, hro (m_slices_Contains_Lapi_Hop_api_Hop_ok h6) ck66), (22, hto (bE c5)), (30, hro (m_slices_Contains_Lapi_Hop_api_Hop_ok h7) ck66)] [(3, .ptr 59003 0), (4, .ptr 59004 0), (5, .ptr 59005 0), (36, .lst false (ml eGLink t.Links)), (37, .int .i64 (t.Links.length:Int)), (38, .int .i64 (j2 : Int)), (9, .ptr 59009 0), (10, .bool vx_6)] [(59003, .cells 69 [.lst false (ml eGHop f.Links), .lst false (ml eInt f.Routers)]), (59004, .cells 30 [.nils, .nils]), (59005, .cells 30 [.own 705900500, .own 705900501]), (705900500, .slice 42 2 (ml eGRouter m_1) 0 false), (705900501, .slice 44 5 (ml eGLink m_3) 0 false), (59009, .cells 44 [.int .i64 e2.A, .int .i64 e2.B, .int .i64 e2.CostA, .int .i64 e2.CostB, .int .i64 e2.Capacity])] (by kernel_rfl) ?_
        exact Exists.intro vx_6 (And.intro hm (Weak.go [] [] (by kernel_rfl)))
      rintro gone_1 hm
      rw [hJ3] at hm
      refine A.RS W0 [] [] [(3, .ptr 59003 0), (4, .ptr 59004 0), (5, .ptr 59005 0), (9, .ptr 59009 0), (36, .lst false (ml eGLink t.Links)), (37, .int .i64 (t.Links.length:Int)), (38, .int .i64 (j2 : Int)), (75, .bool (!gone_1))] [(59003, .cells 69 [.lst false (ml eGHop f.Links), .lst false (ml eInt f.Routers)]), (59004, .cells 30 [.nils, .nils]), (59005, .cells 30 [.own 705900500, .own 705900501]), (705900500, .slice 42 2 (ml eGRouter m_1) 0 false), (705900501, .slice 44 5 (ml eGLink m_3) 0 false), (59009, .cells 44 [.int .i64 e2.A, .int .i64 e2.B, .int .i64 e2.CostA, .int .i64 e2.CostB, .int .i64 e2.Capacity])] (by kernel_rfl) ?_
      rcases cs_some hm with ⟨c6, hm⟩ | ⟨c6, hm⟩
      · skip
        refine A.cT rfl c6 ?_
        obtain ⟨l_2, h8, hm⟩ := bnd_some hm
        refine A.R W0 [] [(4, hap 59580 (ap eGLink (bytes := 40) (by decide) h8))] [(3, .ptr 59003 0), (4, .ptr 59004 0), (5, .ptr 59005 0), (36, .lst false (ml eGLink t.Links)), (37, .int .i64 (t.Links.length:Int)), (38, .int .i64 (j2 : Int))] [(59003, .cells 69 [.lst false (ml eGHop f.Links), .lst false (ml eInt f.Routers)]), (59004, .cells 30 [.nils, .nils]), (59005, .cells 30 [.own 705900500, .own 59580]), (705900500, .slice 42 2 (ml eGRouter m_1) 0 false), (59580, .slice 44 5 (ml eGLink l_2) 0 false)] (by kernel_rfl) ?_
        exact Exists.intro l_2 (And.intro hm (Weak.go [.sw 59580 705900501] [] (by kernel_rfl)))
      refine A.cF rfl c6 ?_
      refine A.skip ?_
      exact Exists.intro m_3 (And.intro hm (Weak.go [] [] (by kernel_rfl)))
    rintro m_4 hm
    rw [hJ2] at hm
    refine A.R W0 [] [(0, hto (inc hx2 hb2))] [(3, .ptr 59003 0), (4, .ptr 59004 0), (5, .ptr 59005 0), (36, .lst false (ml eGLink t.Links)), (37, .int .i64 (t.Links.length:Int)), (38, .int .i64 ((j2 + 1 : Nat) : Int))] [(59003, .cells 69 [.lst false (ml eGHop f.Links), .lst false (ml eInt f.Routers)]), (59004, .cells 30 [.nils, .nils]), (59005, .cells 30 [.own 705900500, .own 705900501]), (705900500, .slice 42 2 (ml eGRouter m_1) 0 false), (705900501, .slice 44 5 (ml eGLink m_4) 0 false)] (by kernel_rfl) ?_
    exact Exists.intro m_4 (And.intro hm (Weak.go [] [] (by kernel_rfl)))
  rintro j2 m_3 hj2 hl2 hm
  rw [hK2] at hm
  refine A.RS W0 [] [] [(3, .ptr 59003 0), (4, .ptr 59004 0), (5, .ptr 59005 0), (36, .lst false (ml eGLink t.Links)), (37, .int .i64 (t.Links.length:Int)), (38, .int .i64 (j2 : Int)), (39, .bool (decide ((j2 : Int) < (t.Links.length:Int))))] [(59003, .cells 69 [.lst false (ml eGHop f.Links), .lst false (ml eInt f.Routers)]), (59004, .cells 30 [.nils, .nils]), (59005, .cells 30 [.own 705900500, .own 705900501]), (705900500, .slice 42 2 (ml eGRouter m_1) 0 false), (705900501, .slice 44 5 (ml eGLink m_3) 0 false)] (by kernel_rfl) ?_
  refine A.seq ?_
  refine A.cF rfl (ltF hl2) ?_
  refine A.exit ?_
  show acode _ _ _ _ _
  refine A.RS W0 [] [] [(4, .ptr 59004 0)] [(59004, .cells 30 [.own 705900500, .own 705900501]), (705900500, .slice 42 2 (ml eGRouter m_1) 0 false), (705900501, .slice 44 5 (ml eGLink m_3) 0 false)] (by kernel_rfl) ?_
  refine A.ret ?_
  obtain rfl := some_inj hm
  exact A.fin W0 [.fz [705900500, 705900501]] rfl (by kernel_rfl)
end Go.Proofs.Ytckhladakpjlgaa
