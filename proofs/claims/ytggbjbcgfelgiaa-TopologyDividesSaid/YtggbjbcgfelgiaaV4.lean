/- The walks of functions of the program. No condition but those that stand in each. -/
import Derived.Test.YtggbjbcgfelgiaaD4
namespace Go.Proofs.Ytggbjbcgfelgiaa
open Go
set_option maxRecDepth 100000
set_option linter.all false
theorem m_cmp_isNaN_int_ok {xa0 : Int} {r : Bool} (hm : m_cmp_isNaN_int xa0 = some r) : RO Try.prog 94 [] [.int .i64 xa0] (.bool r) := by
  refine enterA Try.func94 rfl rfl ?_
  unfold m_cmp_isNaN_int at hm
  refine A.RS W0 [] [] [(0, .int .i64 xa0)] [] (by kernel_rfl) ?_
  refine A.RS W0 [] [] [(2, .bool (!decide (xa0 = xa0)))] [] (by kernel_rfl) ?_
  refine A.ret ?_
  obtain rfl := some_inj hm
  exact A.fin W0 [] rfl (by kernel_rfl)
theorem m_cmp_Compare_int_ok {xa0 : Int} {y : Int} {r : Int} (hm : m_cmp_Compare_int xa0 y = some r) : RO Try.prog 84 [] [.int .i64 xa0, .int .i64 y] (.int .i64 r) := by
  refine enterA Try.func84 rfl rfl ?_
  unfold m_cmp_Compare_int at hm
  refine A.RS W0 [] [] [(0, .int .i64 xa0), (1, .int .i64 y)] [] (by kernel_rfl) ?_
  obtain ⟨vx_1, h1, hm⟩ := bnd_some hm
  refine A.RS W0 [] [(1, hro (m_cmp_isNaN_int_ok h1) ck94)] [(0, .int .i64 xa0), (1, .int .i64 y), (5, .bool vx_1)] [] (by kernel_rfl) ?_
  obtain ⟨vx_2, h2, hm⟩ := bnd_some hm
  refine A.RS W0 [] [(1, hro (m_cmp_isNaN_int_ok h2) ck94)] [(0, .int .i64 xa0), (1, .int .i64 y), (5, .bool vx_1), (6, .bool vx_2)] [] (by kernel_rfl) ?_
  refine A.seq ?_
  refine A.RS W0 [] [] [(0, .int .i64 xa0), (1, .int .i64 y), (6, .bool vx_2), (11, .bool vx_1)] [] (by kernel_rfl) ?_
  rcases cs_some hm with ⟨c1, hm⟩ | ⟨c1, hm⟩
  · skip
    refine A.cT rfl c1 ?_
    refine A.seq ?_
    refine A.RS W0 [] [] [(12, .bool vx_2)] [] (by kernel_rfl) ?_
    rcases cs_some hm with ⟨c2, hm⟩ | ⟨c2, hm⟩
    · skip
      refine A.cT rfl c2 ?_
      refine A.RS W0 [] [] [(4, .int .i64 (0:Int))] [] (by kernel_rfl) ?_
      refine A.ret ?_
      obtain rfl := some_inj hm
      exact A.fin W0 [] rfl (by kernel_rfl)
    refine A.cF rfl c2 ?_
    refine A.skip ?_
    show acode _ _ _ _ _
    refine A.RS W0 [] [] [(4, .int .i64 (-1:Int))] [] (by kernel_rfl) ?_
    refine A.ret ?_
    obtain rfl := some_inj hm
    exact A.fin W0 [] rfl (by kernel_rfl)
  refine A.cF rfl c1 ?_
  refine A.skip ?_
  show acode _ _ _ _ _
  refine A.seq ?_
  refine A.RS W0 [] [] [(0, .int .i64 xa0), (1, .int .i64 y), (13, .bool vx_2)] [] (by kernel_rfl) ?_
  rcases cs_some hm with ⟨c3, hm⟩ | ⟨c3, hm⟩
  · skip
    refine A.cT rfl c3 ?_
    refine A.RS W0 [] [] [(4, .int .i64 (1:Int))] [] (by kernel_rfl) ?_
    refine A.ret ?_
    obtain rfl := some_inj hm
    exact A.fin W0 [] rfl (by kernel_rfl)
  refine A.cF rfl c3 ?_
  refine A.skip ?_
  show acode _ _ _ _ _
  refine A.seq ?_
  refine A.RS W0 [] [] [(0, .int .i64 xa0), (1, .int .i64 y), (16, .bool (decide (xa0 < y)))] [] (by kernel_rfl) ?_
  rcases cs_some hm with ⟨c4, hm⟩ | ⟨c4, hm⟩
  · skip
    refine A.cT rfl c4 ?_
    refine A.RS W0 [] [] [(4, .int .i64 (-1:Int))] [] (by kernel_rfl) ?_
    refine A.ret ?_
    obtain rfl := some_inj hm
    exact A.fin W0 [] rfl (by kernel_rfl)
  refine A.cF rfl c4 ?_
  refine A.skip ?_
  show acode _ _ _ _ _
  refine A.seq ?_
  refine A.RS W0 [] [] [(19, .bool (decide (y < xa0)))] [] (by kernel_rfl) ?_
  rcases cs_some hm with ⟨c5, hm⟩ | ⟨c5, hm⟩
  · skip
    refine A.cT rfl c5 ?_
    refine A.RS W0 [] [] [(4, .int .i64 (1:Int))] [] (by kernel_rfl) ?_
    refine A.ret ?_
    obtain rfl := some_inj hm
    exact A.fin W0 [] rfl (by kernel_rfl)
  refine A.cF rfl c5 ?_
  refine A.skip ?_
  show acode _ _ _ _ _
  refine A.RS W0 [] [] [(4, .int .i64 (0:Int))] [] (by kernel_rfl) ?_
  refine A.ret ?_
  obtain rfl := some_inj hm
  exact A.fin W0 [] rfl (by kernel_rfl)
theorem m_cmp_Or_int_ok {vals : List Int} {r : Int} (hm : m_cmp_Or_int vals = some r) : RO Try.prog 86 [] [.lst false (ml eInt vals)] (.int .i64 r) := by
  refine enterA Try.func86 rfl rfl ?_
  unfold m_cmp_Or_int at hm
  refine A.RS W0 [] [] [(0, .lst false (ml eInt vals))] [] (by kernel_rfl) ?_
  refine A.RS W0 [] [] [(0, .lst false (ml eInt vals)), (3, .int .i64 (0:Int))] [] (by kernel_rfl) ?_
  refine A.seq ?_
  refine A.RS W0 [] [(1, hto (lnE eInt vals))] [(3, .int .i64 (0:Int)), (6, .lst false (ml eInt vals)), (7, .int .i64 (vals.length:Int)), (8, .int .i64 (0:Int))] [] (by kernel_rfl) ?_
  refine A.block ?_
  refine A.bS 6 rfl fun hb1 => ?_
  obtain ⟨B1, K1, hB1, hK1, hm⟩ := forI_some hm
  refine A.lpI (l := vals) (j0 := 0) (B := B1) (K := K1) hm (fun j1 => fun sg => match sg with | () => [(3, .int .i64 (0:Int)), (6, .lst false (ml eInt vals)), (7, .int .i64 (vals.length:Int)), (8, .int .i64 (j1 : Int))]) (fun j1 => fun sg => match sg with | () => []) ?_ ?_ ?_
  · exact Weak.go [] [] (by kernel_rfl)
  · skip
    rintro j1 e1 Z1 ⟨⟩ hj1 hx1 hm
    rw [hB1] at hm
    refine A.RS W0 [] [] [(3, .int .i64 (0:Int)), (6, .lst false (ml eInt vals)), (7, .int .i64 (vals.length:Int)), (8, .int .i64 (j1 : Int)), (9, .bool (decide ((j1 : Int) < (vals.length:Int))))] [] (by kernel_rfl) ?_
    refine A.seq ?_
    refine A.cT rfl (ltT hx1) ?_
    refine A.skip ?_
    show acode _ _ _ _ _
    refine A.seq ?_
    refine A.block ?_
    refine A.RS W0 [] [(0, hix (ix eInt (elO_nat hx1)))] [(3, .int .i64 (0:Int)), (6, .lst false (ml eInt vals)), (7, .int .i64 (vals.length:Int)), (8, .int .i64 (j1 : Int)), (5, .int .i64 e1)] [] (by kernel_rfl) ?_
    refine A.RS W0 [] [] [(3, .int .i64 (0:Int)), (6, .lst false (ml eInt vals)), (7, .int .i64 (vals.length:Int)), (8, .int .i64 (j1 : Int)), (5, .int .i64 e1), (14, .bool (!decide (e1 = (0:Int))))] [] (by kernel_rfl) ?_
    rcases cs_some hm with ⟨c1, hm⟩ | ⟨c1, hm⟩
    · skip
      refine A.cT rfl c1 ?_
      refine A.RS W0 [] [] [(2, .int .i64 e1)] [] (by kernel_rfl) ?_
      refine A.ret ?_
      obtain rfl := some_inj hm
      exact A.fin W0 [] rfl (by kernel_rfl)
    refine A.cF rfl c1 ?_
    refine A.skip ?_
    show acode _ _ _ _ _
    refine A.R W0 [] [(0, hto (inc hx1 hb1))] [(3, .int .i64 (0:Int)), (6, .lst false (ml eInt vals)), (7, .int .i64 (vals.length:Int)), (8, .int .i64 ((j1 + 1 : Nat) : Int))] [] (by kernel_rfl) ?_
    exact Exists.intro () (And.intro hm (Weak.go [] [] (by kernel_rfl)))
  rintro j1 ⟨⟩ hj1 hl1 hm
  rw [hK1] at hm
  refine A.RS W0 [] [] [(3, .int .i64 (0:Int)), (6, .lst false (ml eInt vals)), (7, .int .i64 (vals.length:Int)), (8, .int .i64 (j1 : Int)), (9, .bool (decide ((j1 : Int) < (vals.length:Int))))] [] (by kernel_rfl) ?_
  refine A.seq ?_
  refine A.cF rfl (ltF hl1) ?_
  refine A.exit ?_
  show acode _ _ _ _ _
  refine A.RS W0 [] [] [(2, .int .i64 (0:Int))] [] (by kernel_rfl) ?_
  refine A.ret ?_
  obtain rfl := some_inj hm
  exact A.fin W0 [] rfl (by kernel_rfl)
theorem m_slices_BinarySearchFunc_Lapi_Router_api_Router_int_ok {xa0 : List GRouter} {target : Int} {cmp : GRouter → Int → Option Int} {cmp_g : Nat} {cmp_c : List AV} (cmp_k : CallOk Try.prog cmp_g) (cmp_f : ∀ (y0 : GRouter) (y1 : Int) (q : Int), cmp y0 y1 = some q → RO Try.prog cmp_g [] ([.agg [.int .i64 y0.ID, .bool y0.Capable], .int .i64 y1] ++ cmp_c) (.int .i64 q)) {r : Int × Bool} (hm : m_slices_BinarySearchFunc_Lapi_Router_api_Router_int xa0 target cmp = some r) : RO Try.prog 57 [] [.lst false (ml eGRouter xa0), .int .i64 target, .cfn cmp_g cmp_c] (.tup [.int .i64 r.1, .bool r.2]) := by
  refine enterA Try.func57 rfl rfl ?_
  unfold m_slices_BinarySearchFunc_Lapi_Router_api_Router_int at hm
  refine A.RS W0 [] [] [(0, .lst false (ml eGRouter xa0)), (1, .int .i64 target), (2, .cfn cmp_g cmp_c)] [] (by kernel_rfl) ?_
  refine A.RS W0 [] [(1, hto (lnE eGRouter xa0))] [(0, .lst false (ml eGRouter xa0)), (1, .int .i64 target), (2, .cfn cmp_g cmp_c), (8, .int .i64 (xa0.length:Int))] [] (by kernel_rfl) ?_
  refine A.RS W0 [] [] [(0, .lst false (ml eGRouter xa0)), (1, .int .i64 target), (2, .cfn cmp_g cmp_c), (8, .int .i64 (xa0.length:Int)), (9, .int .i64 (0:Int)), (10, .int .i64 (xa0.length:Int))] [] (by kernel_rfl) ?_
  refine A.seq ?_
  refine A.block ?_
  obtain ⟨F1, n1, hF1, hm⟩ := whl_some hm
  refine A.lpW (F := F1) hm (fun sg => match sg with | (i_1, j_1) => [(0, .lst false (ml eGRouter xa0)), (1, .int .i64 target), (2, .cfn cmp_g cmp_c), (8, .int .i64 (xa0.length:Int)), (9, .int .i64 i_1), (10, .int .i64 j_1)]) (fun sg => match sg with | (i_1, j_1) => []) ?_ ?_
  · exact Weak.go [] [] (by kernel_rfl)
  rintro Z1 ⟨i_1, j_1⟩ hm
  rw [hF1] at hm
  refine A.seq ?_
  refine A.RS W0 [] [] [(0, .lst false (ml eGRouter xa0)), (1, .int .i64 target), (2, .cfn cmp_g cmp_c), (8, .int .i64 (xa0.length:Int)), (9, .int .i64 i_1), (10, .int .i64 j_1), (17, .bool (decide (i_1 < j_1)))] [] (by kernel_rfl) ?_
  rcases cs_some hm with ⟨c1, hm⟩ | ⟨c1, hm⟩
  · skip
    refine A.cT rfl c1 ?_
    refine A.skip ?_
    show acode _ _ _ _ _
    refine A.block ?_
    refine A.RS W0 [] [(4, .sh (1:Int) (by decide))] [(0, .lst false (ml eGRouter xa0)), (1, .int .i64 target), (2, .cfn cmp_g cmp_c), (8, .int .i64 (xa0.length:Int)), (9, .int .i64 i_1), (10, .int .i64 j_1), (11, .int .i64 (w64 (Int.fdiv (IntKind.wrap .u64 (w64 (i_1 + j_1))) (2 ^ min (1:Int).toNat 64))))] [] (by kernel_rfl) ?_
    obtain ⟨e_1, h1, hm⟩ := bnd_some hm
    obtain ⟨vx_1, h2, hm⟩ := bnd_some hm
    refine A.RS W0 [] [(3, hix (ix eGRouter h1)), (6, hrf (cmp_f _ _ _ h2) cmp_k)] [(0, .lst false (ml eGRouter xa0)), (1, .int .i64 target), (2, .cfn cmp_g cmp_c), (8, .int .i64 (xa0.length:Int)), (9, .int .i64 i_1), (10, .int .i64 j_1), (11, .int .i64 (w64 (Int.fdiv (IntKind.wrap .u64 (w64 (i_1 + j_1))) (2 ^ min (1:Int).toNat 64)))), (31, .bool (decide (vx_1 < (0:Int))))] [] (by kernel_rfl) ?_
    rcases cs_some hm with ⟨c2, hm⟩ | ⟨c2, hm⟩
    · skip
      refine A.cT rfl c2 ?_
      refine A.R W0 [] [] [(0, .lst false (ml eGRouter xa0)), (1, .int .i64 target), (2, .cfn cmp_g cmp_c), (8, .int .i64 (xa0.length:Int)), (9, .int .i64 (w64 ((w64 (Int.fdiv (IntKind.wrap .u64 (w64 (i_1 + j_1))) (2 ^ min (1:Int).toNat 64))) + (1:Int)))), (10, .int .i64 j_1)] [] (by kernel_rfl) ?_
      exact Exists.intro (w64 ((w64 (Int.fdiv (IntKind.wrap .u64 (w64 (i_1 + j_1))) (2 ^ min (1:Int).toNat 64))) + (1:Int)), j_1) (And.intro hm (Weak.go [] [] (by kernel_rfl)))
    refine A.cF rfl c2 ?_
    refine A.R W0 [] [] [(0, .lst false (ml eGRouter xa0)), (1, .int .i64 target), (2, .cfn cmp_g cmp_c), (8, .int .i64 (xa0.length:Int)), (9, .int .i64 i_1), (10, .int .i64 (w64 (Int.fdiv (IntKind.wrap .u64 (w64 (i_1 + j_1))) (2 ^ min (1:Int).toNat 64))))] [] (by kernel_rfl) ?_
    exact Exists.intro (i_1, w64 (Int.fdiv (IntKind.wrap .u64 (w64 (i_1 + j_1))) (2 ^ min (1:Int).toNat 64))) (And.intro hm (Weak.go [] [] (by kernel_rfl)))
  refine A.cF rfl c1 ?_
  refine A.exit ?_
  show acode _ _ _ _ _
  rcases cs_some hm with ⟨c3, hm⟩ | ⟨c3, hm⟩
  · skip
    obtain ⟨e_2, h3, hm⟩ := bnd_some hm
    obtain ⟨vx_2, h4, hm⟩ := bnd_some hm
    refine A.RS W0 [] [(4, hto (bE c3)), (8, hix (ix eGRouter h3)), (11, hrf (cmp_f _ _ _ h4) cmp_k)] [(6, .int .i64 i_1), (7, .bool (decide (vx_2 = (0:Int))))] [] (by kernel_rfl) ?_
    refine A.ret ?_
    obtain rfl := some_inj hm
    exact A.fin W0 [] rfl (by kernel_rfl)
  refine A.RS W0 [] [(4, hto (bE c3))] [(6, .int .i64 i_1), (7, .bool false)] [] (by kernel_rfl) ?_
  refine A.ret ?_
  obtain rfl := some_inj hm
  exact A.fin W0 [] rfl (by kernel_rfl)
theorem m_slices_BinarySearchFunc_Lapi_Link_api_Link_api_Link_ok {xa0 : List GLink} {target : GLink} {cmp : GLink → GLink → Option Int} {cmp_g : Nat} {cmp_c : List AV} (cmp_k : CallOk Try.prog cmp_g) (cmp_f : ∀ (y0 : GLink) (y1 : GLink) (q : Int), cmp y0 y1 = some q → RO Try.prog cmp_g [] ([.agg [.int .i64 y0.A, .int .i64 y0.B, .int .i64 y0.CostA, .int .i64 y0.CostB, .int .i64 y0.Capacity], .agg [.int .i64 y1.A, .int .i64 y1.B, .int .i64 y1.CostA, .int .i64 y1.CostB, .int .i64 y1.Capacity]] ++ cmp_c) (.int .i64 q)) {r : Int × Bool} (hm : m_slices_BinarySearchFunc_Lapi_Link_api_Link_api_Link xa0 target cmp = some r) : RO Try.prog 77 [] [.lst false (ml eGLink xa0), .agg [.int .i64 target.A, .int .i64 target.B, .int .i64 target.CostA, .int .i64 target.CostB, .int .i64 target.Capacity], .cfn cmp_g cmp_c] (.tup [.int .i64 r.1, .bool r.2]) := by
  refine enterA Try.func77 rfl rfl ?_
  unfold m_slices_BinarySearchFunc_Lapi_Link_api_Link_api_Link at hm
  refine A.RS W0 [] [(0, .al 77004)] [(0, .lst false (ml eGLink xa0)), (2, .cfn cmp_g cmp_c), (4, .ptr 77004 0)] [(77004, .cells 50 [.int .i64 target.A, .int .i64 target.B, .int .i64 target.CostA, .int .i64 target.CostB, .int .i64 target.Capacity])] (by kernel_rfl) ?_
  refine A.RS W0 [] [(1, hto (lnE eGLink xa0))] [(0, .lst false (ml eGLink xa0)), (2, .cfn cmp_g cmp_c), (4, .ptr 77004 0), (8, .int .i64 (xa0.length:Int))] [(77004, .cells 50 [.int .i64 target.A, .int .i64 target.B, .int .i64 target.CostA, .int .i64 target.CostB, .int .i64 target.Capacity])] (by kernel_rfl) ?_
  refine A.RS W0 [] [] [(0, .lst false (ml eGLink xa0)), (2, .cfn cmp_g cmp_c), (4, .ptr 77004 0), (8, .int .i64 (xa0.length:Int)), (9, .int .i64 (0:Int)), (10, .int .i64 (xa0.length:Int))] [(77004, .cells 50 [.int .i64 target.A, .int .i64 target.B, .int .i64 target.CostA, .int .i64 target.CostB, .int .i64 target.Capacity])] (by kernel_rfl) ?_
  refine A.seq ?_
  refine A.block ?_
  obtain ⟨F1, n1, hF1, hm⟩ := whl_some hm
  refine A.lpW (F := F1) hm (fun sg => match sg with | (i_1, j_1) => [(0, .lst false (ml eGLink xa0)), (2, .cfn cmp_g cmp_c), (4, .ptr 77004 0), (8, .int .i64 (xa0.length:Int)), (9, .int .i64 i_1), (10, .int .i64 j_1)]) (fun sg => match sg with | (i_1, j_1) => [(77004, .cells 50 [.int .i64 target.A, .int .i64 target.B, .int .i64 target.CostA, .int .i64 target.CostB, .int .i64 target.Capacity])]) ?_ ?_
  · exact Weak.go [] [] (by kernel_rfl)
  rintro Z1 ⟨i_1, j_1⟩ hm
  rw [hF1] at hm
  refine A.seq ?_
  refine A.RS W0 [] [] [(0, .lst false (ml eGLink xa0)), (2, .cfn cmp_g cmp_c), (4, .ptr 77004 0), (8, .int .i64 (xa0.length:Int)), (9, .int .i64 i_1), (10, .int .i64 j_1), (17, .bool (decide (i_1 < j_1)))] [(77004, .cells 50 [.int .i64 target.A, .int .i64 target.B, .int .i64 target.CostA, .int .i64 target.CostB, .int .i64 target.Capacity])] (by kernel_rfl) ?_
  rcases cs_some hm with ⟨c1, hm⟩ | ⟨c1, hm⟩
  · skip
    refine A.cT rfl c1 ?_
    refine A.skip ?_
    show acode _ _ _ _ _
    refine A.block ?_
    refine A.RS W0 [] [(4, .sh (1:Int) (by decide))] [(0, .lst false (ml eGLink xa0)), (2, .cfn cmp_g cmp_c), (4, .ptr 77004 0), (8, .int .i64 (xa0.length:Int)), (9, .int .i64 i_1), (10, .int .i64 j_1), (11, .int .i64 (w64 (Int.fdiv (IntKind.wrap .u64 (w64 (i_1 + j_1))) (2 ^ min (1:Int).toNat 64))))] [(77004, .cells 50 [.int .i64 target.A, .int .i64 target.B, .int .i64 target.CostA, .int .i64 target.CostB, .int .i64 target.Capacity])] (by kernel_rfl) ?_
    obtain ⟨e_1, h1, hm⟩ := bnd_some hm
    obtain ⟨vx_1, h2, hm⟩ := bnd_some hm
    refine A.RS W0 [] [(3, hix (ix eGLink h1)), (6, hrf (cmp_f _ _ _ h2) cmp_k)] [(0, .lst false (ml eGLink xa0)), (2, .cfn cmp_g cmp_c), (4, .ptr 77004 0), (8, .int .i64 (xa0.length:Int)), (9, .int .i64 i_1), (10, .int .i64 j_1), (11, .int .i64 (w64 (Int.fdiv (IntKind.wrap .u64 (w64 (i_1 + j_1))) (2 ^ min (1:Int).toNat 64)))), (31, .bool (decide (vx_1 < (0:Int))))] [(77004, .cells 50 [.int .i64 target.A, .int .i64 target.B, .int .i64 target.CostA, .int .i64 target.CostB, .int .i64 target.Capacity])] (by kernel_rfl) ?_
    rcases cs_some hm with ⟨c2, hm⟩ | ⟨c2, hm⟩
    · skip
      refine A.cT rfl c2 ?_
      refine A.R W0 [] [] [(0, .lst false (ml eGLink xa0)), (2, .cfn cmp_g cmp_c), (4, .ptr 77004 0), (8, .int .i64 (xa0.length:Int)), (9, .int .i64 (w64 ((w64 (Int.fdiv (IntKind.wrap .u64 (w64 (i_1 + j_1))) (2 ^ min (1:Int).toNat 64))) + (1:Int)))), (10, .int .i64 j_1)] [(77004, .cells 50 [.int .i64 target.A, .int .i64 target.B, .int .i64 target.CostA, .int .i64 target.CostB, .int .i64 target.Capacity])] (by kernel_rfl) ?_
      exact Exists.intro (w64 ((w64 (Int.fdiv (IntKind.wrap .u64 (w64 (i_1 + j_1))) (2 ^ min (1:Int).toNat 64))) + (1:Int)), j_1) (And.intro hm (Weak.go [] [] (by kernel_rfl)))
    refine A.cF rfl c2 ?_
    refine A.R W0 [] [] [(0, .lst false (ml eGLink xa0)), (2, .cfn cmp_g cmp_c), (4, .ptr 77004 0), (8, .int .i64 (xa0.length:Int)), (9, .int .i64 i_1), (10, .int .i64 (w64 (Int.fdiv (IntKind.wrap .u64 (w64 (i_1 + j_1))) (2 ^ min (1:Int).toNat 64))))] [(77004, .cells 50 [.int .i64 target.A, .int .i64 target.B, .int .i64 target.CostA, .int .i64 target.CostB, .int .i64 target.Capacity])] (by kernel_rfl) ?_
    exact Exists.intro (i_1, w64 (Int.fdiv (IntKind.wrap .u64 (w64 (i_1 + j_1))) (2 ^ min (1:Int).toNat 64))) (And.intro hm (Weak.go [] [] (by kernel_rfl)))
  refine A.cF rfl c1 ?_
  refine A.exit ?_
  show acode _ _ _ _ _
  rcases cs_some hm with ⟨c3, hm⟩ | ⟨c3, hm⟩
  · skip
    obtain ⟨e_2, h3, hm⟩ := bnd_some hm
    obtain ⟨vx_2, h4, hm⟩ := bnd_some hm
    refine A.RS W0 [] [(4, hto (bE c3)), (8, hix (ix eGLink h3)), (11, hrf (cmp_f _ _ _ h4) cmp_k)] [(6, .int .i64 i_1), (7, .bool (decide (vx_2 = (0:Int))))] [] (by kernel_rfl) ?_
    refine A.ret ?_
    obtain rfl := some_inj hm
    exact A.fin W0 [] rfl (by kernel_rfl)
  refine A.RS W0 [] [(4, hto (bE c3))] [(6, .int .i64 i_1), (7, .bool false)] [] (by kernel_rfl) ?_
  refine A.ret ?_
  obtain rfl := some_inj hm
  exact A.fin W0 [] rfl (by kernel_rfl)
theorem m_slices_IndexFunc_Lapi_Router_api_Router_ok {sa0 : List GRouter} {f : GRouter → Option Bool} {f_g : Nat} {f_c : List AV} (f_k : CallOk Try.prog f_g) (f_f : ∀ (y0 : GRouter) (q : Bool), f y0 = some q → RO Try.prog f_g [] ([.agg [.int .i64 y0.ID, .bool y0.Capable]] ++ f_c) (.bool q)) {r : Int} (hm : m_slices_IndexFunc_Lapi_Router_api_Router sa0 f = some r) : RO Try.prog 83 [] [.lst false (ml eGRouter sa0), .cfn f_g f_c] (.int .i64 r) := by
  refine enterA Try.func83 rfl rfl ?_
  unfold m_slices_IndexFunc_Lapi_Router_api_Router at hm
  refine A.RS W0 [] [] [(0, .lst false (ml eGRouter sa0)), (1, .cfn f_g f_c)] [] (by kernel_rfl) ?_
  refine A.seq ?_
  refine A.RS W0 [] [(1, hto (lnE eGRouter sa0))] [(0, .lst false (ml eGRouter sa0)), (1, .cfn f_g f_c), (7, .int .i64 (sa0.length:Int)), (8, .int .i64 (0:Int))] [] (by kernel_rfl) ?_
  refine A.block ?_
  refine A.bS 0 rfl fun hb1 => ?_
  obtain ⟨B1, K1, hB1, hK1, hm⟩ := forI_some hm
  refine A.lpI (l := sa0) (j0 := 0) (B := B1) (K := K1) hm (fun j1 => fun sg => match sg with | () => [(0, .lst false (ml eGRouter sa0)), (1, .cfn f_g f_c), (7, .int .i64 (sa0.length:Int)), (8, .int .i64 (j1 : Int))]) (fun j1 => fun sg => match sg with | () => []) ?_ ?_ ?_
  · exact Weak.go [] [] (by kernel_rfl)
  · skip
    rintro j1 e1 Z1 ⟨⟩ hj1 hx1 hm
    rw [hB1] at hm
    refine A.RS W0 [] [] [(0, .lst false (ml eGRouter sa0)), (1, .cfn f_g f_c), (7, .int .i64 (sa0.length:Int)), (8, .int .i64 (j1 : Int)), (9, .bool (decide ((j1 : Int) < (sa0.length:Int))))] [] (by kernel_rfl) ?_
    refine A.seq ?_
    refine A.cT rfl (ltT hx1) ?_
    refine A.skip ?_
    show acode _ _ _ _ _
    refine A.seq ?_
    refine A.block ?_
    refine A.RS W0 [] [] [(0, .lst false (ml eGRouter sa0)), (1, .cfn f_g f_c), (7, .int .i64 (sa0.length:Int)), (8, .int .i64 (j1 : Int)), (5, .int .i64 (j1 : Int))] [] (by kernel_rfl) ?_
    obtain ⟨vx_1, h1, hm⟩ := bnd_some hm
    refine A.RS W0 [] [(3, hix (ix eGRouter (elO_nat hx1))), (5, hrf (f_f _ _ h1) f_k)] [(0, .lst false (ml eGRouter sa0)), (1, .cfn f_g f_c), (7, .int .i64 (sa0.length:Int)), (8, .int .i64 (j1 : Int)), (5, .int .i64 (j1 : Int)), (16, .bool vx_1)] [] (by kernel_rfl) ?_
    rcases cs_some hm with ⟨c1, hm⟩ | ⟨c1, hm⟩
    · skip
      refine A.cT rfl c1 ?_
      refine A.RS W0 [] [] [(4, .int .i64 (j1 : Int))] [] (by kernel_rfl) ?_
      refine A.ret ?_
      obtain rfl := some_inj hm
      exact A.fin W0 [] rfl (by kernel_rfl)
    refine A.cF rfl c1 ?_
    refine A.skip ?_
    show acode _ _ _ _ _
    refine A.R W0 [] [(0, hto (inc hx1 hb1))] [(0, .lst false (ml eGRouter sa0)), (1, .cfn f_g f_c), (7, .int .i64 (sa0.length:Int)), (8, .int .i64 ((j1 + 1 : Nat) : Int))] [] (by kernel_rfl) ?_
    exact Exists.intro () (And.intro hm (Weak.go [] [] (by kernel_rfl)))
  rintro j1 ⟨⟩ hj1 hl1 hm
  rw [hK1] at hm
  refine A.RS W0 [] [] [(0, .lst false (ml eGRouter sa0)), (1, .cfn f_g f_c), (7, .int .i64 (sa0.length:Int)), (8, .int .i64 (j1 : Int)), (9, .bool (decide ((j1 : Int) < (sa0.length:Int))))] [] (by kernel_rfl) ?_
  refine A.seq ?_
  refine A.cF rfl (ltF hl1) ?_
  refine A.exit ?_
  show acode _ _ _ _ _
  refine A.RS W0 [] [] [(4, .int .i64 (-1:Int))] [] (by kernel_rfl) ?_
  refine A.ret ?_
  obtain rfl := some_inj hm
  exact A.fin W0 [] rfl (by kernel_rfl)
theorem m_slices_IndexFunc_Lapi_Link_api_Link_ok {sa0 : List GLink} {f : GLink → Option Bool} {f_g : Nat} {f_c : List AV} (f_k : CallOk Try.prog f_g) (f_f : ∀ (y0 : GLink) (q : Bool), f y0 = some q → RO Try.prog f_g [] ([.agg [.int .i64 y0.A, .int .i64 y0.B, .int .i64 y0.CostA, .int .i64 y0.CostB, .int .i64 y0.Capacity]] ++ f_c) (.bool q)) {r : Int} (hm : m_slices_IndexFunc_Lapi_Link_api_Link sa0 f = some r) : RO Try.prog 85 [] [.lst false (ml eGLink sa0), .cfn f_g f_c] (.int .i64 r) := by
  refine enterA Try.func85 rfl rfl ?_
  unfold m_slices_IndexFunc_Lapi_Link_api_Link at hm
  refine A.RS W0 [] [] [(0, .lst false (ml eGLink sa0)), (1, .cfn f_g f_c)] [] (by kernel_rfl) ?_
  refine A.seq ?_
  refine A.RS W0 [] [(1, hto (lnE eGLink sa0))] [(0, .lst false (ml eGLink sa0)), (1, .cfn f_g f_c), (7, .int .i64 (sa0.length:Int)), (8, .int .i64 (0:Int))] [] (by kernel_rfl) ?_
  refine A.block ?_
  refine A.bS 0 rfl fun hb1 => ?_
  obtain ⟨B1, K1, hB1, hK1, hm⟩ := forI_some hm
  refine A.lpI (l := sa0) (j0 := 0) (B := B1) (K := K1) hm (fun j1 => fun sg => match sg with | () => [(0, .lst false (ml eGLink sa0)), (1, .cfn f_g f_c), (7, .int .i64 (sa0.length:Int)), (8, .int .i64 (j1 : Int))]) (fun j1 => fun sg => match sg with | () => []) ?_ ?_ ?_
  · exact Weak.go [] [] (by kernel_rfl)
  · skip
    rintro j1 e1 Z1 ⟨⟩ hj1 hx1 hm
    rw [hB1] at hm
    refine A.RS W0 [] [] [(0, .lst false (ml eGLink sa0)), (1, .cfn f_g f_c), (7, .int .i64 (sa0.length:Int)), (8, .int .i64 (j1 : Int)), (9, .bool (decide ((j1 : Int) < (sa0.length:Int))))] [] (by kernel_rfl) ?_
    refine A.seq ?_
    refine A.cT rfl (ltT hx1) ?_
    refine A.skip ?_
    show acode _ _ _ _ _
    refine A.seq ?_
    refine A.block ?_
    refine A.RS W0 [] [] [(0, .lst false (ml eGLink sa0)), (1, .cfn f_g f_c), (7, .int .i64 (sa0.length:Int)), (8, .int .i64 (j1 : Int)), (5, .int .i64 (j1 : Int))] [] (by kernel_rfl) ?_
    obtain ⟨vx_1, h1, hm⟩ := bnd_some hm
    refine A.RS W0 [] [(3, hix (ix eGLink (elO_nat hx1))), (5, hrf (f_f _ _ h1) f_k)] [(0, .lst false (ml eGLink sa0)), (1, .cfn f_g f_c), (7, .int .i64 (sa0.length:Int)), (8, .int .i64 (j1 : Int)), (5, .int .i64 (j1 : Int)), (16, .bool vx_1)] [] (by kernel_rfl) ?_
    rcases cs_some hm with ⟨c1, hm⟩ | ⟨c1, hm⟩
    · skip
      refine A.cT rfl c1 ?_
      refine A.RS W0 [] [] [(4, .int .i64 (j1 : Int))] [] (by kernel_rfl) ?_
      refine A.ret ?_
      obtain rfl := some_inj hm
      exact A.fin W0 [] rfl (by kernel_rfl)
    refine A.cF rfl c1 ?_
    refine A.skip ?_
    show acode _ _ _ _ _
    refine A.R W0 [] [(0, hto (inc hx1 hb1))] [(0, .lst false (ml eGLink sa0)), (1, .cfn f_g f_c), (7, .int .i64 (sa0.length:Int)), (8, .int .i64 ((j1 + 1 : Nat) : Int))] [] (by kernel_rfl) ?_
    exact Exists.intro () (And.intro hm (Weak.go [] [] (by kernel_rfl)))
  rintro j1 ⟨⟩ hj1 hl1 hm
  rw [hK1] at hm
  refine A.RS W0 [] [] [(0, .lst false (ml eGLink sa0)), (1, .cfn f_g f_c), (7, .int .i64 (sa0.length:Int)), (8, .int .i64 (j1 : Int)), (9, .bool (decide ((j1 : Int) < (sa0.length:Int))))] [] (by kernel_rfl) ?_
  refine A.seq ?_
  refine A.cF rfl (ltF hl1) ?_
  refine A.exit ?_
  show acode _ _ _ _ _
  refine A.RS W0 [] [] [(4, .int .i64 (-1:Int))] [] (by kernel_rfl) ?_
  refine A.ret ?_
  obtain rfl := some_inj hm
  exact A.fin W0 [] rfl (by kernel_rfl)
theorem m_slices_Index_Lint_int_ok {sa0 : List Int} {v : Int} {r : Int} (hm : m_slices_Index_Lint_int sa0 v = some r) : RO Try.prog 87 [] [.lst false (ml eInt sa0), .int .i64 v] (.int .i64 r) := by
  refine enterA Try.func87 rfl rfl ?_
  unfold m_slices_Index_Lint_int at hm
  refine A.RS W0 [] [] [(0, .lst false (ml eInt sa0)), (1, .int .i64 v)] [] (by kernel_rfl) ?_
  refine A.seq ?_
  refine A.RS W0 [] [(1, hto (lnE eInt sa0))] [(0, .lst false (ml eInt sa0)), (1, .int .i64 v), (7, .int .i64 (sa0.length:Int)), (8, .int .i64 (0:Int))] [] (by kernel_rfl) ?_
  refine A.block ?_
  refine A.bS 0 rfl fun hb1 => ?_
  obtain ⟨B1, K1, hB1, hK1, hm⟩ := forI_some hm
  refine A.lpI (l := sa0) (j0 := 0) (B := B1) (K := K1) hm (fun j1 => fun sg => match sg with | () => [(0, .lst false (ml eInt sa0)), (1, .int .i64 v), (7, .int .i64 (sa0.length:Int)), (8, .int .i64 (j1 : Int))]) (fun j1 => fun sg => match sg with | () => []) ?_ ?_ ?_
  · exact Weak.go [] [] (by kernel_rfl)
  · skip
    rintro j1 e1 Z1 ⟨⟩ hj1 hx1 hm
    rw [hB1] at hm
    refine A.RS W0 [] [] [(0, .lst false (ml eInt sa0)), (1, .int .i64 v), (7, .int .i64 (sa0.length:Int)), (8, .int .i64 (j1 : Int)), (9, .bool (decide ((j1 : Int) < (sa0.length:Int))))] [] (by kernel_rfl) ?_
    refine A.seq ?_
    refine A.cT rfl (ltT hx1) ?_
    refine A.skip ?_
    show acode _ _ _ _ _
    refine A.seq ?_
    refine A.block ?_
    refine A.RS W0 [] [] [(0, .lst false (ml eInt sa0)), (1, .int .i64 v), (7, .int .i64 (sa0.length:Int)), (8, .int .i64 (j1 : Int)), (5, .int .i64 (j1 : Int))] [] (by kernel_rfl) ?_
    refine A.RS W0 [] [(3, hix (ix eInt (elO_nat hx1)))] [(0, .lst false (ml eInt sa0)), (1, .int .i64 v), (7, .int .i64 (sa0.length:Int)), (8, .int .i64 (j1 : Int)), (5, .int .i64 (j1 : Int)), (16, .bool (decide (v = e1)))] [] (by kernel_rfl) ?_
    rcases cs_some hm with ⟨c1, hm⟩ | ⟨c1, hm⟩
    · skip
      refine A.cT rfl c1 ?_
      refine A.RS W0 [] [] [(4, .int .i64 (j1 : Int))] [] (by kernel_rfl) ?_
      refine A.ret ?_
      obtain rfl := some_inj hm
      exact A.fin W0 [] rfl (by kernel_rfl)
    refine A.cF rfl c1 ?_
    refine A.skip ?_
    show acode _ _ _ _ _
    refine A.R W0 [] [(0, hto (inc hx1 hb1))] [(0, .lst false (ml eInt sa0)), (1, .int .i64 v), (7, .int .i64 (sa0.length:Int)), (8, .int .i64 ((j1 + 1 : Nat) : Int))] [] (by kernel_rfl) ?_
    exact Exists.intro () (And.intro hm (Weak.go [] [] (by kernel_rfl)))
  rintro j1 ⟨⟩ hj1 hl1 hm
  rw [hK1] at hm
  refine A.RS W0 [] [] [(0, .lst false (ml eInt sa0)), (1, .int .i64 v), (7, .int .i64 (sa0.length:Int)), (8, .int .i64 (j1 : Int)), (9, .bool (decide ((j1 : Int) < (sa0.length:Int))))] [] (by kernel_rfl) ?_
  refine A.seq ?_
  refine A.cF rfl (ltF hl1) ?_
  refine A.exit ?_
  show acode _ _ _ _ _
  refine A.RS W0 [] [] [(4, .int .i64 (-1:Int))] [] (by kernel_rfl) ?_
  refine A.ret ?_
  obtain rfl := some_inj hm
  exact A.fin W0 [] rfl (by kernel_rfl)
theorem m_slices_Index_Lapi_Hop_api_Hop_ok {sa0 : List GHop} {v : GHop} {r : Int} (hm : m_slices_Index_Lapi_Hop_api_Hop sa0 v = some r) : RO Try.prog 88 [] [.lst false (ml eGHop sa0), .agg [.int .i64 v.From, .int .i64 v.To]] (.int .i64 r) := by
  refine enterA Try.func88 rfl rfl ?_
  unfold m_slices_Index_Lapi_Hop_api_Hop at hm
  refine A.RS W0 [] [(0, .al 88003)] [(0, .lst false (ml eGHop sa0)), (3, .ptr 88003 0)] [(88003, .cells 52 [.int .i64 v.From, .int .i64 v.To])] (by kernel_rfl) ?_
  refine A.seq ?_
  refine A.RS W0 [] [(1, hto (lnE eGHop sa0))] [(0, .lst false (ml eGHop sa0)), (3, .ptr 88003 0), (7, .int .i64 (sa0.length:Int)), (8, .int .i64 (0:Int))] [(88003, .cells 52 [.int .i64 v.From, .int .i64 v.To])] (by kernel_rfl) ?_
  refine A.block ?_
  refine A.bS 0 rfl fun hb1 => ?_
  obtain ⟨B1, K1, hB1, hK1, hm⟩ := forI_some hm
  refine A.lpI (l := sa0) (j0 := 0) (B := B1) (K := K1) hm (fun j1 => fun sg => match sg with | () => [(0, .lst false (ml eGHop sa0)), (3, .ptr 88003 0), (7, .int .i64 (sa0.length:Int)), (8, .int .i64 (j1 : Int))]) (fun j1 => fun sg => match sg with | () => [(88003, .cells 52 [.int .i64 v.From, .int .i64 v.To])]) ?_ ?_ ?_
  · exact Weak.go [] [] (by kernel_rfl)
  · skip
    rintro j1 e1 Z1 ⟨⟩ hj1 hx1 hm
    rw [hB1] at hm
    refine A.RS W0 [] [] [(0, .lst false (ml eGHop sa0)), (3, .ptr 88003 0), (7, .int .i64 (sa0.length:Int)), (8, .int .i64 (j1 : Int)), (9, .bool (decide ((j1 : Int) < (sa0.length:Int))))] [(88003, .cells 52 [.int .i64 v.From, .int .i64 v.To])] (by kernel_rfl) ?_
    refine A.seq ?_
    refine A.cT rfl (ltT hx1) ?_
    refine A.skip ?_
    show acode _ _ _ _ _
    refine A.seq ?_
    refine A.block ?_
    refine A.RS W0 [] [] [(0, .lst false (ml eGHop sa0)), (3, .ptr 88003 0), (7, .int .i64 (sa0.length:Int)), (8, .int .i64 (j1 : Int)), (5, .int .i64 (j1 : Int))] [(88003, .cells 52 [.int .i64 v.From, .int .i64 v.To])] (by kernel_rfl) ?_
    refine A.RS W0 [] [(3, hix (ix eGHop (elO_nat hx1))), (5, .sq false 52 (.agg [.int .i64 v.From, .int .i64 v.To]) (.agg [.int .i64 e1.From, .int .i64 e1.To]) (eqGHop v e1) (fun x y w => eq52_eql x y _ _ _ _ w))] [(0, .lst false (ml eGHop sa0)), (3, .ptr 88003 0), (7, .int .i64 (sa0.length:Int)), (8, .int .i64 (j1 : Int)), (5, .int .i64 (j1 : Int)), (16, .bool (eqGHop v e1))] [(88003, .cells 52 [.int .i64 v.From, .int .i64 v.To])] (by kernel_rfl) ?_
    rcases cs_some hm with ⟨c1, hm⟩ | ⟨c1, hm⟩
    · skip
      refine A.cT rfl c1 ?_
      refine A.RS W0 [] [] [(4, .int .i64 (j1 : Int))] [] (by kernel_rfl) ?_
      refine A.ret ?_
      obtain rfl := some_inj hm
      exact A.fin W0 [] rfl (by kernel_rfl)
    refine A.cF rfl c1 ?_
    refine A.skip ?_
    show acode _ _ _ _ _
    refine A.R W0 [] [(0, hto (inc hx1 hb1))] [(0, .lst false (ml eGHop sa0)), (3, .ptr 88003 0), (7, .int .i64 (sa0.length:Int)), (8, .int .i64 ((j1 + 1 : Nat) : Int))] [(88003, .cells 52 [.int .i64 v.From, .int .i64 v.To])] (by kernel_rfl) ?_
    exact Exists.intro () (And.intro hm (Weak.go [] [] (by kernel_rfl)))
  rintro j1 ⟨⟩ hj1 hl1 hm
  rw [hK1] at hm
  refine A.RS W0 [] [] [(0, .lst false (ml eGHop sa0)), (3, .ptr 88003 0), (7, .int .i64 (sa0.length:Int)), (8, .int .i64 (j1 : Int)), (9, .bool (decide ((j1 : Int) < (sa0.length:Int))))] [(88003, .cells 52 [.int .i64 v.From, .int .i64 v.To])] (by kernel_rfl) ?_
  refine A.seq ?_
  refine A.cF rfl (ltF hl1) ?_
  refine A.exit ?_
  show acode _ _ _ _ _
  refine A.RS W0 [] [] [(4, .int .i64 (-1:Int))] [] (by kernel_rfl) ?_
  refine A.ret ?_
  obtain rfl := some_inj hm
  exact A.fin W0 [] rfl (by kernel_rfl)
theorem m_slices_ContainsFunc_Lapi_Router_api_Router_ok {sa0 : List GRouter} {f : GRouter → Option Bool} {f_g : Nat} {f_c : List AV} (f_k : CallOk Try.prog f_g) (f_f : ∀ (y0 : GRouter) (q : Bool), f y0 = some q → RO Try.prog f_g [] ([.agg [.int .i64 y0.ID, .bool y0.Capable]] ++ f_c) (.bool q)) {r : Bool} (hm : m_slices_ContainsFunc_Lapi_Router_api_Router sa0 f = some r) : RO Try.prog 53 [] [.lst false (ml eGRouter sa0), .cfn f_g f_c] (.bool r) := by
  refine enterA Try.func53 rfl rfl ?_
  unfold m_slices_ContainsFunc_Lapi_Router_api_Router at hm
  refine A.RS W0 [] [] [(0, .lst false (ml eGRouter sa0)), (1, .cfn f_g f_c)] [] (by kernel_rfl) ?_
  obtain ⟨vx_1, h1, hm⟩ := bnd_some hm
  refine A.RS W0 [] [(2, hro (m_slices_IndexFunc_Lapi_Router_api_Router_ok (f_k := f_k) (f_f := f_f) h1) ck83)] [(4, .bool (decide ((0:Int) ≤ vx_1)))] [] (by kernel_rfl) ?_
  refine A.ret ?_
  obtain rfl := some_inj hm
  exact A.fin W0 [] rfl (by kernel_rfl)
theorem m_slices_ContainsFunc_Lapi_Link_api_Link_ok {sa0 : List GLink} {f : GLink → Option Bool} {f_g : Nat} {f_c : List AV} (f_k : CallOk Try.prog f_g) (f_f : ∀ (y0 : GLink) (q : Bool), f y0 = some q → RO Try.prog f_g [] ([.agg [.int .i64 y0.A, .int .i64 y0.B, .int .i64 y0.CostA, .int .i64 y0.CostB, .int .i64 y0.Capacity]] ++ f_c) (.bool q)) {r : Bool} (hm : m_slices_ContainsFunc_Lapi_Link_api_Link sa0 f = some r) : RO Try.prog 59 [] [.lst false (ml eGLink sa0), .cfn f_g f_c] (.bool r) := by
  refine enterA Try.func59 rfl rfl ?_
  unfold m_slices_ContainsFunc_Lapi_Link_api_Link at hm
  refine A.RS W0 [] [] [(0, .lst false (ml eGLink sa0)), (1, .cfn f_g f_c)] [] (by kernel_rfl) ?_
  obtain ⟨vx_1, h1, hm⟩ := bnd_some hm
  refine A.RS W0 [] [(2, hro (m_slices_IndexFunc_Lapi_Link_api_Link_ok (f_k := f_k) (f_f := f_f) h1) ck85)] [(4, .bool (decide ((0:Int) ≤ vx_1)))] [] (by kernel_rfl) ?_
  refine A.ret ?_
  obtain rfl := some_inj hm
  exact A.fin W0 [] rfl (by kernel_rfl)
theorem m_slices_Contains_Lint_int_ok {sa0 : List Int} {v : Int} {r : Bool} (hm : m_slices_Contains_Lint_int sa0 v = some r) : RO Try.prog 68 [] [.lst false (ml eInt sa0), .int .i64 v] (.bool r) := by
  refine enterA Try.func68 rfl rfl ?_
  unfold m_slices_Contains_Lint_int at hm
  refine A.RS W0 [] [] [(0, .lst false (ml eInt sa0)), (1, .int .i64 v)] [] (by kernel_rfl) ?_
  obtain ⟨vx_1, h1, hm⟩ := bnd_some hm
  refine A.RS W0 [] [(2, hro (m_slices_Index_Lint_int_ok h1) ck87)] [(4, .bool (decide ((0:Int) ≤ vx_1)))] [] (by kernel_rfl) ?_
  refine A.ret ?_
  obtain rfl := some_inj hm
  exact A.fin W0 [] rfl (by kernel_rfl)
theorem m_slices_Contains_Lapi_Hop_api_Hop_ok {sa0 : List GHop} {v : GHop} {r : Bool} (hm : m_slices_Contains_Lapi_Hop_api_Hop sa0 v = some r) : RO Try.prog 69 [] [.lst false (ml eGHop sa0), .agg [.int .i64 v.From, .int .i64 v.To]] (.bool r) := by
  refine enterA Try.func69 rfl rfl ?_
  unfold m_slices_Contains_Lapi_Hop_api_Hop at hm
  refine A.RS W0 [] [(0, .al 69003)] [(0, .lst false (ml eGHop sa0)), (3, .ptr 69003 0)] [(69003, .cells 52 [.int .i64 v.From, .int .i64 v.To])] (by kernel_rfl) ?_
  obtain ⟨vx_1, h1, hm⟩ := bnd_some hm
  refine A.RS W0 [] [(2, hro (m_slices_Index_Lapi_Hop_api_Hop_ok h1) ck88)] [(4, .bool (decide ((0:Int) ≤ vx_1)))] [] (by kernel_rfl) ?_
  refine A.ret ?_
  obtain rfl := some_inj hm
  exact A.fin W0 [] rfl (by kernel_rfl)
theorem m_topology_in_ok {n : Int} {least : Int} {most : Int} {r : Bool} (hm : m_topology_in n least most = some r) : RO Try.prog 55 [] [.int .i64 n, .int .i64 least, .int .i64 most] (.bool r) := by
  refine enterA Try.func55 rfl rfl ?_
  unfold m_topology_in at hm
  refine A.RS W0 [] [] [(0, .int .i64 n), (1, .int .i64 least), (2, .int .i64 most)] [] (by kernel_rfl) ?_
  refine A.mid [(6, .bool ((decide (least ≤ n)) && (decide (n ≤ most))))] [] (fun hk => ?_) ?_
  · skip
    rcases tf (decide (least ≤ n)) with c1 | c1
    · skip
      exact A.RS W0 [] [(3, hto (bE c1)), (8, hto (andT (q := decide (n ≤ most)) c1))] _ _ (by kernel_rfl) hk
    exact A.RS W0 [] [(3, hto (bE c1)), (8, hto (andF (q := decide (n ≤ most)) c1))] _ _ (by kernel_rfl) hk
  refine A.ret ?_
  obtain rfl := some_inj hm
  exact A.fin W0 [] rfl (by kernel_rfl)
theorem m_topology_compare_ok {a : GLink} {b : GLink} {r : Int} (hm : m_topology_compare a b = some r) : RO Try.prog 63 [] [.agg [.int .i64 a.A, .int .i64 a.B, .int .i64 a.CostA, .int .i64 a.CostB, .int .i64 a.Capacity], .agg [.int .i64 b.A, .int .i64 b.B, .int .i64 b.CostA, .int .i64 b.CostB, .int .i64 b.Capacity]] (.int .i64 r) := by
  refine enterA Try.func63 rfl rfl ?_
  unfold m_topology_compare at hm
  refine A.RS W0 [] [(0, .al 63002), (1, .al 63003)] [(2, .ptr 63002 0), (3, .ptr 63003 0)] [(63002, .cells 50 [.int .i64 a.A, .int .i64 a.B, .int .i64 a.CostA, .int .i64 a.CostB, .int .i64 a.Capacity]), (63003, .cells 50 [.int .i64 b.A, .int .i64 b.B, .int .i64 b.CostA, .int .i64 b.CostB, .int .i64 b.Capacity])] (by kernel_rfl) ?_
  obtain ⟨vx_1, h1, hm⟩ := bnd_some hm
  obtain ⟨vx_2, h2, hm⟩ := bnd_some hm
  obtain ⟨vx_3, h3, hm⟩ := bnd_some hm
  refine A.RS W0 [] [(4, hro (m_cmp_Compare_int_ok h1) ck84), (9, hro (m_cmp_Compare_int_ok h2) ck84), (11, hro (m_cmp_Or_int_ok h3) ck86)] [(4, .int .i64 vx_3)] [] (by kernel_rfl) ?_
  refine A.ret ?_
  obtain rfl := some_inj hm
  exact A.fin W0 [] rfl (by kernel_rfl)
theorem m_topology_byID_ok {ra0 : GRouter} {id : Int} {r : Int} (hm : m_topology_byID ra0 id = some r) : RO Try.prog 58 [] [.agg [.int .i64 ra0.ID, .bool ra0.Capable], .int .i64 id] (.int .i64 r) := by
  refine enterA Try.func58 rfl rfl ?_
  unfold m_topology_byID at hm
  refine A.RS W0 [] [(0, .al 58002)] [(1, .int .i64 id), (2, .ptr 58002 0)] [(58002, .cells 55 [.int .i64 ra0.ID, .bool ra0.Capable])] (by kernel_rfl) ?_
  obtain ⟨vx_1, h1, hm⟩ := bnd_some hm
  refine A.RS W0 [] [(3, hro (m_cmp_Compare_int_ok h1) ck84)] [(4, .int .i64 vx_1)] [] (by kernel_rfl) ?_
  refine A.ret ?_
  obtain rfl := some_inj hm
  exact A.fin W0 [] rfl (by kernel_rfl)
theorem m_topology_Check_1_ok {ra0 : GRouter} {r : Bool} (hm : m_topology_Check_1 ra0 = some r) : RO Try.prog 54 [] [.agg [.int .i64 ra0.ID, .bool ra0.Capable]] (.bool r) := by
  refine enterA Try.func54 rfl rfl ?_
  unfold m_topology_Check_1 at hm
  refine A.RS W0 [] [(0, .al 54001)] [(1, .ptr 54001 0)] [(54001, .cells 55 [.int .i64 ra0.ID, .bool ra0.Capable])] (by kernel_rfl) ?_
  obtain ⟨vx_1, h1, hm⟩ := bnd_some hm
  refine A.RS W0 [] [(2, hro (m_topology_in_ok h1) ck55)] [(2, .bool (!vx_1))] [] (by kernel_rfl) ?_
  refine A.ret ?_
  obtain rfl := some_inj hm
  exact A.fin W0 [] rfl (by kernel_rfl)
theorem m_topology_Check_3_ok {l : GLink} {r : Bool} (hm : m_topology_Check_3 l = some r) : RO Try.prog 60 [] [.agg [.int .i64 l.A, .int .i64 l.B, .int .i64 l.CostA, .int .i64 l.CostB, .int .i64 l.Capacity]] (.bool r) := by
  refine enterA Try.func60 rfl rfl ?_
  unfold m_topology_Check_3 at hm
  refine A.RS W0 [] [(0, .al 60001)] [(1, .ptr 60001 0)] [(60001, .cells 50 [.int .i64 l.A, .int .i64 l.B, .int .i64 l.CostA, .int .i64 l.CostB, .int .i64 l.Capacity])] (by kernel_rfl) ?_
  obtain ⟨vx_1, h1, hm⟩ := bnd_some hm
  rcases cs_some hm with ⟨c1, hm⟩ | ⟨c1, hm⟩
  · skip
    refine A.RS W0 [] [(2, hro (m_topology_in_ok h1) ck55), (4, hto (bE c1))] [(2, .bool true)] [] (by kernel_rfl) ?_
    refine A.ret ?_
    obtain rfl := some_inj hm
    exact A.fin W0 [] rfl (by kernel_rfl)
  obtain ⟨vx_2, h2, hm⟩ := bnd_some hm
  rcases cs_some hm with ⟨c2, hm⟩ | ⟨c2, hm⟩
  · skip
    refine A.RS W0 [] [(2, hro (m_topology_in_ok h1) ck55), (4, hto (bE c1)), (7, hro (m_topology_in_ok h2) ck55), (10, hto (bE c2))] [(2, .bool true)] [] (by kernel_rfl) ?_
    refine A.ret ?_
    obtain rfl := some_inj hm
    exact A.fin W0 [] rfl (by kernel_rfl)
  obtain ⟨vx_3, h3, hm⟩ := bnd_some hm
  refine A.RS W0 [] [(2, hro (m_topology_in_ok h1) ck55), (4, hto (bE c1)), (7, hro (m_topology_in_ok h2) ck55), (10, hto (bE c2)), (13, hro (m_topology_in_ok h3) ck55)] [(2, .bool (!vx_3))] [] (by kernel_rfl) ?_
  refine A.ret ?_
  obtain rfl := some_inj hm
  exact A.fin W0 [] rfl (by kernel_rfl)
theorem m_topology_Check_2_ok {id : Int} {c_0 : GTopology} {r : Bool} (hm : m_topology_Check_2 id c_0 = some r) : RO Try.prog 56 [] [.int .i64 id, .lptr [.lst false (ml eGRouter c_0.Routers), .lst false (ml eGLink c_0.Links)]] (.bool r) := by
  refine enterA Try.func56 rfl rfl ?_
  unfold m_topology_Check_2 at hm
  refine A.RS W0 [] [] [(0, .int .i64 id), (1, .lptr [.lst false (ml eGRouter c_0.Routers), .lst false (ml eGLink c_0.Links)])] [] (by kernel_rfl) ?_
  obtain ⟨vx_1, h1, hm⟩ := bnd_some hm
  refine A.RS W0 [] [(3, hro (m_slices_BinarySearchFunc_Lapi_Router_api_Router_int_ok (cmp_g := 58) (cmp_c := []) (cmp_k := ck58) (cmp_f := fun _ _ _ h => m_topology_byID_ok h) h1) ck57)] [(5, .bool vx_1.2)] [] (by kernel_rfl) ?_
  refine A.RS W0 [] [] [(3, .bool (!vx_1.2))] [] (by kernel_rfl) ?_
  refine A.ret ?_
  obtain rfl := some_inj hm
  exact A.fin W0 [] rfl (by kernel_rfl)
theorem m_topology_Check_4_ok {l : GLink} {c_0 : GTopology} {r : Bool} (hm : m_topology_Check_4 l c_0 = some r) : RO Try.prog 61 [] [.agg [.int .i64 l.A, .int .i64 l.B, .int .i64 l.CostA, .int .i64 l.CostB, .int .i64 l.Capacity], .lptr [.fn 56 [.lptr [.lst false (ml eGRouter c_0.Routers), .lst false (ml eGLink c_0.Links)]]]] (.bool r) := by
  refine enterA Try.func61 rfl rfl ?_
  unfold m_topology_Check_4 at hm
  refine A.RS W0 [] [(0, .al 61002)] [(1, .lptr [.fn 56 [.lptr [.lst false (ml eGRouter c_0.Routers), .lst false (ml eGLink c_0.Links)]]]), (2, .ptr 61002 0)] [(61002, .cells 50 [.int .i64 l.A, .int .i64 l.B, .int .i64 l.CostA, .int .i64 l.CostB, .int .i64 l.Capacity])] (by kernel_rfl) ?_
  obtain ⟨vx_1, h1, hm⟩ := bnd_some hm
  rcases cs_some hm with ⟨c1, hm⟩ | ⟨c1, hm⟩
  · skip
    refine A.RS W0 [] [(3, hle [] (m_topology_Check_2_ok h1) ck56), (4, hto (bE c1))] [(3, .bool true)] [] (by kernel_rfl) ?_
    refine A.ret ?_
    obtain rfl := some_inj hm
    exact A.fin W0 [] rfl (by kernel_rfl)
  obtain ⟨vx_2, h2, hm⟩ := bnd_some hm
  refine A.RS W0 [] [(3, hle [] (m_topology_Check_2_ok h1) ck56), (4, hto (bE c1)), (8, hle [] (m_topology_Check_2_ok h2) ck56)] [(3, .bool vx_2)] [] (by kernel_rfl) ?_
  refine A.ret ?_
  obtain rfl := some_inj hm
  exact A.fin W0 [] rfl (by kernel_rfl)
theorem m_topology_Check_5_ok {l : GLink} {r : Bool} (hm : m_topology_Check_5 l = some r) : RO Try.prog 62 [] [.agg [.int .i64 l.A, .int .i64 l.B, .int .i64 l.CostA, .int .i64 l.CostB, .int .i64 l.Capacity]] (.bool r) := by
  refine enterA Try.func62 rfl rfl ?_
  unfold m_topology_Check_5 at hm
  refine A.RS W0 [] [(0, .al 62001)] [(1, .ptr 62001 0)] [(62001, .cells 50 [.int .i64 l.A, .int .i64 l.B, .int .i64 l.CostA, .int .i64 l.CostB, .int .i64 l.Capacity])] (by kernel_rfl) ?_
  refine A.RS W0 [] [] [(2, .bool (decide (l.B ≤ l.A)))] [] (by kernel_rfl) ?_
  refine A.ret ?_
  obtain rfl := some_inj hm
  exact A.fin W0 [] rfl (by kernel_rfl)
theorem m_topology_Check_ok {t : GTopology} {r : Int} (hm : m_topology_Check t = some r) : RO Try.prog 13 [] [.agg [.lst false (ml eGRouter t.Routers), .lst false (ml eGLink t.Links)]] (.int .i64 r) := by
  refine enterA Try.func13 rfl rfl ?_
  unfold m_topology_Check at hm
  refine A.RS W0 [] [(0, .al 13001)] [(1, .ptr 13001 0)] [(13001, .cells 26 [.lst false (ml eGRouter t.Routers), .lst false (ml eGLink t.Links)])] (by kernel_rfl) ?_
  refine A.seq ?_
  refine A.block ?_
  refine A.mid [(1, .ptr 13001 0), (6, .bool ((decide ((24:Int) < (t.Routers.length:Int))) || (decide ((60:Int) < (t.Links.length:Int)))))] [(13001, .cells 26 [.lst false (ml eGRouter t.Routers), .lst false (ml eGLink t.Links)])] (fun hk => ?_) ?_
  · skip
    rcases tf (decide ((24:Int) < (t.Routers.length:Int))) with c1 | c1
    · skip
      exact A.RS W0 [] [(2, hto (lnE eGRouter t.Routers)), (4, hto (bE c1)), (10, hto (orT (q := decide ((60:Int) < (t.Links.length:Int))) c1))] _ _ (by kernel_rfl) hk
    exact A.RS W0 [] [(2, hto (lnE eGRouter t.Routers)), (4, hto (bE c1)), (7, hto (lnE eGLink t.Links)), (10, hto (orF (q := decide ((60:Int) < (t.Links.length:Int))) c1))] _ _ (by kernel_rfl) hk
  rcases cs_some hm with ⟨c2, hm⟩ | ⟨c2, hm⟩
  · skip
    refine A.cT rfl c2 ?_
    refine A.RS W0 [] [] [(2, .int .i64 (3:Int))] [] (by kernel_rfl) ?_
    refine A.ret ?_
    obtain rfl := some_inj hm
    exact A.fin W0 [] rfl (by kernel_rfl)
  refine A.cF rfl c2 ?_
  obtain ⟨vx_1, h1, hm⟩ := bnd_some hm
  refine A.RS W0 [] [(2, hro (m_slices_ContainsFunc_Lapi_Router_api_Router_ok (f_g := 54) (f_c := []) (f_k := ck54) (f_f := fun _ _ h => m_topology_Check_1_ok h) h1) ck53)] [(1, .ptr 13001 0), (17, .bool vx_1)] [(13001, .cells 26 [.lst false (ml eGRouter t.Routers), .lst false (ml eGLink t.Links)])] (by kernel_rfl) ?_
  rcases cs_some hm with ⟨c3, hm⟩ | ⟨c3, hm⟩
  · skip
    refine A.cT rfl c3 ?_
    refine A.RS W0 [] [] [(2, .int .i64 (2:Int))] [] (by kernel_rfl) ?_
    refine A.ret ?_
    obtain rfl := some_inj hm
    exact A.fin W0 [] rfl (by kernel_rfl)
  refine A.cF rfl c3 ?_
  refine A.skip ?_
  show acode _ _ _ _ _
  refine A.seq ?_
  refine A.RS W0 [] [(2, hto (lnE eGRouter t.Routers))] [(1, .ptr 13001 0), (23, .int .i64 (t.Routers.length:Int)), (24, .int .i64 (0:Int))] [(13001, .cells 26 [.lst false (ml eGRouter t.Routers), .lst false (ml eGLink t.Links)])] (by kernel_rfl) ?_
  refine A.block ?_
  refine A.bC 1 0 rfl rfl rfl fun hb1 => ?_
  obtain ⟨B1, K1, hB1, hK1, hm⟩ := forI_some hm
  refine A.lpI (l := t.Routers) (j0 := 0) (B := B1) (K := K1) hm (fun j1 => fun sg => match sg with | () => [(1, .ptr 13001 0), (23, .int .i64 (t.Routers.length:Int)), (24, .int .i64 (j1 : Int))]) (fun j1 => fun sg => match sg with | () => [(13001, .cells 26 [.lst false (ml eGRouter t.Routers), .lst false (ml eGLink t.Links)])]) ?_ ?_ ?_
  · exact Weak.go [] [] (by kernel_rfl)
  · skip
    rintro j1 e1 Z1 ⟨⟩ hj1 hx1 hm
    rw [hB1] at hm
    refine A.RS W0 [] [] [(1, .ptr 13001 0), (23, .int .i64 (t.Routers.length:Int)), (24, .int .i64 (j1 : Int)), (25, .bool (decide ((j1 : Int) < (t.Routers.length:Int))))] [(13001, .cells 26 [.lst false (ml eGRouter t.Routers), .lst false (ml eGLink t.Links)])] (by kernel_rfl) ?_
    refine A.seq ?_
    refine A.cT rfl (ltT hx1) ?_
    refine A.skip ?_
    show acode _ _ _ _ _
    refine A.seq ?_
    refine A.block ?_
    refine A.RS W0 [] [] [(1, .ptr 13001 0), (23, .int .i64 (t.Routers.length:Int)), (24, .int .i64 (j1 : Int)), (3, .int .i64 (j1 : Int))] [(13001, .cells 26 [.lst false (ml eGRouter t.Routers), .lst false (ml eGLink t.Links)])] (by kernel_rfl) ?_
    obtain ⟨J1, hJ1, hm⟩ := jn_some hm
    refine A.J (J := J1) (r := r) (fun v_1 => [(1, .ptr 13001 0), (23, .int .i64 (t.Routers.length:Int)), (24, .int .i64 (j1 : Int)), (44, .bool v_1)]) (fun v_1 => [(13001, .cells 26 [.lst false (ml eGRouter t.Routers), .lst false (ml eGLink t.Links)])]) ?_ ?_
    · skip
      rcases cs_some hm with ⟨c4, hm⟩ | ⟨c4, hm⟩
      · skip
        obtain ⟨e_1, h2, hm⟩ := bnd_some hm
        refine A.R W0 [] [(2, hto (bE c4)), (7, hix (ix eGRouter h2)), (13, hix (ix eGRouter (elO_nat hx1)))] [(1, .ptr 13001 0), (23, .int .i64 (t.Routers.length:Int)), (24, .int .i64 (j1 : Int)), (44, .bool (decide (e1.ID ≤ e_1.ID)))] [(13001, .cells 26 [.lst false (ml eGRouter t.Routers), .lst false (ml eGLink t.Links)])] (by kernel_rfl) ?_
        exact Exists.intro (decide (e1.ID ≤ e_1.ID)) (And.intro hm (Weak.go [] [] (by kernel_rfl)))
      refine A.R W0 [] [(2, hto (bE c4))] [(1, .ptr 13001 0), (23, .int .i64 (t.Routers.length:Int)), (24, .int .i64 (j1 : Int)), (44, .bool false)] [(13001, .cells 26 [.lst false (ml eGRouter t.Routers), .lst false (ml eGLink t.Links)])] (by kernel_rfl) ?_
      exact Exists.intro false (And.intro hm (Weak.go [] [] (by kernel_rfl)))
    rintro v_1 hm
    rw [hJ1] at hm
    rcases cs_some hm with ⟨c5, hm⟩ | ⟨c5, hm⟩
    · skip
      refine A.cT rfl c5 ?_
      refine A.RS W0 [] [] [(2, .int .i64 (25:Int))] [] (by kernel_rfl) ?_
      refine A.ret ?_
      obtain rfl := some_inj hm
      exact A.fin W0 [] rfl (by kernel_rfl)
    refine A.cF rfl c5 ?_
    refine A.skip ?_
    show acode _ _ _ _ _
    refine A.R W0 [] [(0, hto (inc hx1 hb1))] [(1, .ptr 13001 0), (23, .int .i64 (t.Routers.length:Int)), (24, .int .i64 ((j1 + 1 : Nat) : Int))] [(13001, .cells 26 [.lst false (ml eGRouter t.Routers), .lst false (ml eGLink t.Links)])] (by kernel_rfl) ?_
    exact Exists.intro () (And.intro hm (Weak.go [] [] (by kernel_rfl)))
  rintro j1 ⟨⟩ hj1 hl1 hm
  rw [hK1] at hm
  refine A.RS W0 [] [] [(1, .ptr 13001 0), (23, .int .i64 (t.Routers.length:Int)), (24, .int .i64 (j1 : Int)), (25, .bool (decide ((j1 : Int) < (t.Routers.length:Int))))] [(13001, .cells 26 [.lst false (ml eGRouter t.Routers), .lst false (ml eGLink t.Links)])] (by kernel_rfl) ?_
  refine A.seq ?_
  refine A.cF rfl (ltF hl1) ?_
  refine A.exit ?_
  show acode _ _ _ _ _
  refine A.RS W0 [] [(1, .al 13004)] [(1, .ptr 13001 0), (4, .ptr 13004 0)] [(13001, .cells 26 [.lst false (ml eGRouter t.Routers), .lst false (ml eGLink t.Links)]), (13004, .cells 82 [.fn 56 [.ptr 13001 0]])] (by kernel_rfl) ?_
  refine A.seq ?_
  refine A.block ?_
  obtain ⟨vx_2, h3, hm⟩ := bnd_some hm
  refine A.RS W0 [] [(2, hro (m_slices_ContainsFunc_Lapi_Link_api_Link_ok (f_g := 60) (f_c := []) (f_k := ck60) (f_f := fun _ _ h => m_topology_Check_3_ok h) h3) ck59)] [(1, .ptr 13001 0), (4, .ptr 13004 0), (47, .bool vx_2)] [(13001, .cells 26 [.lst false (ml eGRouter t.Routers), .lst false (ml eGLink t.Links)]), (13004, .cells 82 [.fn 56 [.ptr 13001 0]])] (by kernel_rfl) ?_
  rcases cs_some hm with ⟨c6, hm⟩ | ⟨c6, hm⟩
  · skip
    refine A.cT rfl c6 ?_
    refine A.RS W0 [] [] [(2, .int .i64 (2:Int))] [] (by kernel_rfl) ?_
    refine A.ret ?_
    obtain rfl := some_inj hm
    exact A.fin W0 [] rfl (by kernel_rfl)
  refine A.cF rfl c6 ?_
  obtain ⟨vx_3, h4, hm⟩ := bnd_some hm
  refine A.RS W0 [] [(3, hle [13004, 13001] (m_slices_ContainsFunc_Lapi_Link_api_Link_ok (f_g := 61) (f_c := [.lptr [.fn 56 [.lptr [.lst false (ml eGRouter t.Routers), .lst false (ml eGLink t.Links)]]]]) (f_k := ck61) (f_f := fun _ _ h => m_topology_Check_4_ok h) h4) ck59)] [(1, .ptr 13001 0), (51, .bool vx_3)] [(13001, .cells 26 [.lst false (ml eGRouter t.Routers), .lst false (ml eGLink t.Links)])] (by kernel_rfl) ?_
  rcases cs_some hm with ⟨c7, hm⟩ | ⟨c7, hm⟩
  · skip
    refine A.cT rfl c7 ?_
    refine A.RS W0 [] [] [(2, .int .i64 (4:Int))] [] (by kernel_rfl) ?_
    refine A.ret ?_
    obtain rfl := some_inj hm
    exact A.fin W0 [] rfl (by kernel_rfl)
  refine A.cF rfl c7 ?_
  obtain ⟨vx_4, h5, hm⟩ := bnd_some hm
  refine A.RS W0 [] [(2, hro (m_slices_ContainsFunc_Lapi_Link_api_Link_ok (f_g := 62) (f_c := []) (f_k := ck62) (f_f := fun _ _ h => m_topology_Check_5_ok h) h5) ck59)] [(1, .ptr 13001 0), (56, .bool vx_4)] [(13001, .cells 26 [.lst false (ml eGRouter t.Routers), .lst false (ml eGLink t.Links)])] (by kernel_rfl) ?_
  rcases cs_some hm with ⟨c8, hm⟩ | ⟨c8, hm⟩
  · skip
    refine A.cT rfl c8 ?_
    refine A.RS W0 [] [] [(2, .int .i64 (8:Int))] [] (by kernel_rfl) ?_
    refine A.ret ?_
    obtain rfl := some_inj hm
    exact A.fin W0 [] rfl (by kernel_rfl)
  refine A.cF rfl c8 ?_
  refine A.skip ?_
  show acode _ _ _ _ _
  refine A.seq ?_
  refine A.RS W0 [] [(2, hto (lnE eGLink t.Links))] [(1, .ptr 13001 0), (62, .int .i64 (t.Links.length:Int)), (63, .int .i64 (0:Int))] [(13001, .cells 26 [.lst false (ml eGRouter t.Routers), .lst false (ml eGLink t.Links)])] (by kernel_rfl) ?_
  refine A.block ?_
  refine A.bC 1 1 rfl rfl rfl fun hb2 => ?_
  obtain ⟨B2, K2, hB2, hK2, hm⟩ := forI_some hm
  refine A.lpI (l := t.Links) (j0 := 0) (B := B2) (K := K2) hm (fun j2 => fun sg => match sg with | () => [(1, .ptr 13001 0), (62, .int .i64 (t.Links.length:Int)), (63, .int .i64 (j2 : Int))]) (fun j2 => fun sg => match sg with | () => [(13001, .cells 26 [.lst false (ml eGRouter t.Routers), .lst false (ml eGLink t.Links)])]) ?_ ?_ ?_
  · exact Weak.go [] [] (by kernel_rfl)
  · skip
    rintro j2 e2 Z2 ⟨⟩ hj2 hx2 hm
    rw [hB2] at hm
    refine A.RS W0 [] [] [(1, .ptr 13001 0), (62, .int .i64 (t.Links.length:Int)), (63, .int .i64 (j2 : Int)), (64, .bool (decide ((j2 : Int) < (t.Links.length:Int))))] [(13001, .cells 26 [.lst false (ml eGRouter t.Routers), .lst false (ml eGLink t.Links)])] (by kernel_rfl) ?_
    refine A.seq ?_
    refine A.cT rfl (ltT hx2) ?_
    refine A.skip ?_
    show acode _ _ _ _ _
    refine A.seq ?_
    refine A.block ?_
    refine A.RS W0 [] [] [(1, .ptr 13001 0), (62, .int .i64 (t.Links.length:Int)), (63, .int .i64 (j2 : Int)), (5, .int .i64 (j2 : Int))] [(13001, .cells 26 [.lst false (ml eGRouter t.Routers), .lst false (ml eGLink t.Links)])] (by kernel_rfl) ?_
    obtain ⟨J2, hJ2, hm⟩ := jn_some hm
    refine A.J (J := J2) (r := r) (fun v_2 => [(1, .ptr 13001 0), (62, .int .i64 (t.Links.length:Int)), (63, .int .i64 (j2 : Int)), (82, .bool v_2)]) (fun v_2 => [(13001, .cells 26 [.lst false (ml eGRouter t.Routers), .lst false (ml eGLink t.Links)])]) ?_ ?_
    · skip
      rcases cs_some hm with ⟨c9, hm⟩ | ⟨c9, hm⟩
      · skip
        obtain ⟨e_2, h6, hm⟩ := bnd_some hm
        obtain ⟨vx_5, h7, hm⟩ := bnd_some hm
        refine A.R W0 [] [(2, hto (bE c9)), (7, hix (ix eGLink h6)), (12, hix (ix eGLink (elO_nat hx2))), (14, hro (m_topology_compare_ok h7) ck63)] [(1, .ptr 13001 0), (62, .int .i64 (t.Links.length:Int)), (63, .int .i64 (j2 : Int)), (82, .bool (decide ((0:Int) ≤ vx_5)))] [(13001, .cells 26 [.lst false (ml eGRouter t.Routers), .lst false (ml eGLink t.Links)])] (by kernel_rfl) ?_
        exact Exists.intro (decide ((0:Int) ≤ vx_5)) (And.intro hm (Weak.go [] [] (by kernel_rfl)))
      refine A.R W0 [] [(2, hto (bE c9))] [(1, .ptr 13001 0), (62, .int .i64 (t.Links.length:Int)), (63, .int .i64 (j2 : Int)), (82, .bool false)] [(13001, .cells 26 [.lst false (ml eGRouter t.Routers), .lst false (ml eGLink t.Links)])] (by kernel_rfl) ?_
      exact Exists.intro false (And.intro hm (Weak.go [] [] (by kernel_rfl)))
    rintro v_2 hm
    rw [hJ2] at hm
    rcases cs_some hm with ⟨c10, hm⟩ | ⟨c10, hm⟩
    · skip
      refine A.cT rfl c10 ?_
      refine A.RS W0 [] [] [(2, .int .i64 (25:Int))] [] (by kernel_rfl) ?_
      refine A.ret ?_
      obtain rfl := some_inj hm
      exact A.fin W0 [] rfl (by kernel_rfl)
    refine A.cF rfl c10 ?_
    refine A.skip ?_
    show acode _ _ _ _ _
    refine A.R W0 [] [(0, hto (inc hx2 hb2))] [(1, .ptr 13001 0), (62, .int .i64 (t.Links.length:Int)), (63, .int .i64 ((j2 + 1 : Nat) : Int))] [(13001, .cells 26 [.lst false (ml eGRouter t.Routers), .lst false (ml eGLink t.Links)])] (by kernel_rfl) ?_
    exact Exists.intro () (And.intro hm (Weak.go [] [] (by kernel_rfl)))
  rintro j2 ⟨⟩ hj2 hl2 hm
  rw [hK2] at hm
  refine A.RS W0 [] [] [(1, .ptr 13001 0), (62, .int .i64 (t.Links.length:Int)), (63, .int .i64 (j2 : Int)), (64, .bool (decide ((j2 : Int) < (t.Links.length:Int))))] [(13001, .cells 26 [.lst false (ml eGRouter t.Routers), .lst false (ml eGLink t.Links)])] (by kernel_rfl) ?_
  refine A.seq ?_
  refine A.cF rfl (ltF hl2) ?_
  refine A.exit ?_
  show acode _ _ _ _ _
  refine A.RS W0 [] [] [(2, .int .i64 (0:Int))] [] (by kernel_rfl) ?_
  refine A.ret ?_
  obtain rfl := some_inj hm
  exact A.fin W0 [] rfl (by kernel_rfl)
theorem m_topology_valid_ok {t : GTopology} {r : Bool} (hm : m_topology_valid t = some r) : RO Try.prog 67 [] [.agg [.lst false (ml eGRouter t.Routers), .lst false (ml eGLink t.Links)]] (.bool r) := by
  refine enterA Try.func67 rfl rfl ?_
  unfold m_topology_valid at hm
  refine A.RS W0 [] [(0, .al 67001)] [(1, .ptr 67001 0)] [(67001, .cells 26 [.lst false (ml eGRouter t.Routers), .lst false (ml eGLink t.Links)])] (by kernel_rfl) ?_
  obtain ⟨vx_1, h1, hm⟩ := bnd_some hm
  refine A.RS W0 [] [(1, hro (m_topology_Check_ok h1) ck13)] [(2, .bool (decide (vx_1 = (0:Int))))] [] (by kernel_rfl) ?_
  refine A.ret ?_
  obtain rfl := some_inj hm
  exact A.fin W0 [] rfl (by kernel_rfl)
theorem m_topology_find_ok {t : GTopology} {router : Int} {r : GRouter × Bool} (hm : m_topology_find t router = some r) : RO Try.prog 75 [] [.agg [.lst false (ml eGRouter t.Routers), .lst false (ml eGLink t.Links)], .int .i64 router] (.tup [.agg [.int .i64 r.1.ID, .bool r.1.Capable], .bool r.2]) := by
  refine enterA Try.func75 rfl rfl ?_
  unfold m_topology_find at hm
  refine A.RS W0 [] [(0, .al 75002), (1, .al 75004)] [(1, .int .i64 router), (2, .ptr 75002 0), (4, .ptr 75004 0)] [(75002, .cells 26 [.lst false (ml eGRouter t.Routers), .lst false (ml eGLink t.Links)]), (75004, .cells 55 [.int .i64 (0:Int), .bool false])] (by kernel_rfl) ?_
  obtain ⟨vx_1, h1, hm⟩ := bnd_some hm
  refine A.RS W0 [] [(3, hro (m_slices_BinarySearchFunc_Lapi_Router_api_Router_int_ok (cmp_g := 58) (cmp_c := []) (cmp_k := ck58) (cmp_f := fun _ _ _ h => m_topology_byID_ok h) h1) ck57)] [(2, .ptr 75002 0), (4, .ptr 75004 0), (6, .int .i64 vx_1.1), (7, .bool vx_1.2)] [(75002, .cells 26 [.lst false (ml eGRouter t.Routers), .lst false (ml eGLink t.Links)]), (75004, .cells 55 [.int .i64 (0:Int), .bool false])] (by kernel_rfl) ?_
  refine A.seq ?_
  refine A.RS W0 [] [] [(2, .ptr 75002 0), (4, .ptr 75004 0), (6, .int .i64 vx_1.1), (16, .bool (!vx_1.2))] [(75002, .cells 26 [.lst false (ml eGRouter t.Routers), .lst false (ml eGLink t.Links)]), (75004, .cells 55 [.int .i64 (0:Int), .bool false])] (by kernel_rfl) ?_
  rcases cs_some hm with ⟨c1, hm⟩ | ⟨c1, hm⟩
  · skip
    refine A.cT rfl c1 ?_
    refine A.RS W0 [] [] [(4, .ptr 75004 0), (5, .bool false)] [(75004, .cells 55 [.int .i64 (0:Int), .bool false])] (by kernel_rfl) ?_
    refine A.ret ?_
    obtain rfl := some_inj hm
    exact A.fin W0 [] rfl (by kernel_rfl)
  refine A.cF rfl c1 ?_
  refine A.skip ?_
  show acode _ _ _ _ _
  obtain ⟨e_1, h2, hm⟩ := bnd_some hm
  refine A.RS W0 [] [(3, hix (ix eGRouter h2))] [(4, .ptr 75004 0), (5, .bool true)] [(75004, .cells 55 [.int .i64 e_1.ID, .bool e_1.Capable])] (by kernel_rfl) ?_
  refine A.ret ?_
  obtain rfl := some_inj hm
  exact A.fin W0 [] rfl (by kernel_rfl)
theorem m_topology_Has_ok {t : GTopology} {router : Int} {r : Bool} (hm : m_topology_Has t router = some r) : RO Try.prog 37 [] [.agg [.lst false (ml eGRouter t.Routers), .lst false (ml eGLink t.Links)], .int .i64 router] (.bool r) := by
  refine enterA Try.func37 rfl rfl ?_
  unfold m_topology_Has at hm
  refine A.RS W0 [] [(0, .al 37002)] [(1, .int .i64 router), (2, .ptr 37002 0)] [(37002, .cells 26 [.lst false (ml eGRouter t.Routers), .lst false (ml eGLink t.Links)])] (by kernel_rfl) ?_
  obtain ⟨vx_1, h1, hm⟩ := bnd_some hm
  refine A.RS W0 [] [(2, hro (m_topology_find_ok h1) ck75), (6, .al 37005)] [(2, .ptr 37002 0), (6, .bool vx_1.2)] [(37002, .cells 26 [.lst false (ml eGRouter t.Routers), .lst false (ml eGLink t.Links)])] (by kernel_rfl) ?_
  obtain ⟨vx_2, h2, hm⟩ := bnd_some hm
  rcases cs_some hm with ⟨c1, hm⟩ | ⟨c1, hm⟩
  · skip
    refine A.RS W0 [] [(1, hro (m_topology_valid_ok h2) ck67), (2, hto (bE c1))] [(4, .bool vx_1.2)] [] (by kernel_rfl) ?_
    refine A.ret ?_
    obtain rfl := some_inj hm
    exact A.fin W0 [] rfl (by kernel_rfl)
  refine A.RS W0 [] [(1, hro (m_topology_valid_ok h2) ck67), (2, hto (bE c1))] [(4, .bool false)] [] (by kernel_rfl) ?_
  refine A.ret ?_
  obtain rfl := some_inj hm
  exact A.fin W0 [] rfl (by kernel_rfl)
theorem m_topology_Capable_ok {t : GTopology} {router : Int} {r : Bool} (hm : m_topology_Capable t router = some r) : RO Try.prog 39 [] [.agg [.lst false (ml eGRouter t.Routers), .lst false (ml eGLink t.Links)], .int .i64 router] (.bool r) := by
  refine enterA Try.func39 rfl rfl ?_
  unfold m_topology_Capable at hm
  refine A.RS W0 [] [(0, .al 39002)] [(1, .int .i64 router), (2, .ptr 39002 0)] [(39002, .cells 26 [.lst false (ml eGRouter t.Routers), .lst false (ml eGLink t.Links)])] (by kernel_rfl) ?_
  obtain ⟨vx_1, h1, hm⟩ := bnd_some hm
  refine A.RS W0 [] [(2, hro (m_topology_find_ok h1) ck75), (6, .al 39005)] [(2, .ptr 39002 0), (5, .ptr 39005 0)] [(39002, .cells 26 [.lst false (ml eGRouter t.Routers), .lst false (ml eGLink t.Links)]), (39005, .cells 55 [.int .i64 vx_1.1.ID, .bool vx_1.1.Capable])] (by kernel_rfl) ?_
  obtain ⟨vx_2, h2, hm⟩ := bnd_some hm
  rcases cs_some hm with ⟨c1, hm⟩ | ⟨c1, hm⟩
  · skip
    refine A.RS W0 [] [(1, hro (m_topology_valid_ok h2) ck67), (2, hto (bE c1))] [(4, .bool vx_1.1.Capable)] [] (by kernel_rfl) ?_
    refine A.ret ?_
    obtain rfl := some_inj hm
    exact A.fin W0 [] rfl (by kernel_rfl)
  refine A.RS W0 [] [(1, hro (m_topology_valid_ok h2) ck67), (2, hto (bE c1))] [(4, .bool false)] [] (by kernel_rfl) ?_
  refine A.ret ?_
  obtain rfl := some_inj hm
  exact A.fin W0 [] rfl (by kernel_rfl)
theorem m_topology_Cost_ok {t : GTopology} {froma1 : Int} {toa2 : Int} {r : Int × Bool} (hm : m_topology_Cost t froma1 toa2 = some r) : RO Try.prog 43 [] [.agg [.lst false (ml eGRouter t.Routers), .lst false (ml eGLink t.Links)], .int .i64 froma1, .int .i64 toa2] (.tup [.int .i64 r.1, .bool r.2]) := by
  refine enterA Try.func43 rfl rfl ?_
  unfold m_topology_Cost at hm
  refine A.RS W0 [] [(0, .al 43003)] [(1, .int .i64 froma1), (2, .int .i64 toa2), (3, .ptr 43003 0)] [(43003, .cells 26 [.lst false (ml eGRouter t.Routers), .lst false (ml eGLink t.Links)])] (by kernel_rfl) ?_
  refine A.seq ?_
  obtain ⟨vx_1, h1, hm⟩ := bnd_some hm
  refine A.RS W0 [] [(1, hro (m_topology_valid_ok h1) ck67)] [(1, .int .i64 froma1), (2, .int .i64 toa2), (3, .ptr 43003 0), (12, .bool (!vx_1))] [(43003, .cells 26 [.lst false (ml eGRouter t.Routers), .lst false (ml eGLink t.Links)])] (by kernel_rfl) ?_
  rcases cs_some hm with ⟨c1, hm⟩ | ⟨c1, hm⟩
  · skip
    refine A.cT rfl c1 ?_
    refine A.RS W0 [] [] [(6, .int .i64 (0:Int)), (7, .bool false)] [] (by kernel_rfl) ?_
    refine A.ret ?_
    obtain rfl := some_inj hm
    exact A.fin W0 [] rfl (by kernel_rfl)
  refine A.cF rfl c1 ?_
  refine A.skip ?_
  show acode _ _ _ _ _
  obtain ⟨vx_2, h2, hm⟩ := bnd_some hm
  refine A.RS W0 [] [(9, hro (m_slices_BinarySearchFunc_Lapi_Link_api_Link_api_Link_ok (cmp_g := 63) (cmp_c := []) (cmp_k := ck63) (cmp_f := fun _ _ _ h => m_topology_compare_ok h) h2) ck77)] [(1, .int .i64 froma1), (2, .int .i64 toa2), (3, .ptr 43003 0), (8, .int .i64 vx_2.1), (9, .bool vx_2.2)] [(43003, .cells 26 [.lst false (ml eGRouter t.Routers), .lst false (ml eGLink t.Links)])] (by kernel_rfl) ?_
  refine A.seq ?_
  refine A.block ?_
  refine A.RS W0 [] [] [(1, .int .i64 froma1), (2, .int .i64 toa2), (3, .ptr 43003 0), (8, .int .i64 vx_2.1), (26, .bool (!vx_2.2))] [(43003, .cells 26 [.lst false (ml eGRouter t.Routers), .lst false (ml eGLink t.Links)])] (by kernel_rfl) ?_
  rcases cs_some hm with ⟨c2, hm⟩ | ⟨c2, hm⟩
  · skip
    refine A.cT rfl c2 ?_
    refine A.RS W0 [] [] [(6, .int .i64 (0:Int)), (7, .bool false)] [] (by kernel_rfl) ?_
    refine A.ret ?_
    obtain rfl := some_inj hm
    exact A.fin W0 [] rfl (by kernel_rfl)
  refine A.cF rfl c2 ?_
  refine A.RS W0 [] [] [(3, .ptr 43003 0), (8, .int .i64 vx_2.1), (29, .bool (decide (froma1 < toa2)))] [(43003, .cells 26 [.lst false (ml eGRouter t.Routers), .lst false (ml eGLink t.Links)])] (by kernel_rfl) ?_
  rcases cs_some hm with ⟨c3, hm⟩ | ⟨c3, hm⟩
  · skip
    refine A.cT rfl c3 ?_
    obtain ⟨e_1, h3, hm⟩ := bnd_some hm
    refine A.RS W0 [] [(3, hix (ix eGLink h3))] [(6, .int .i64 e_1.CostA), (7, .bool true)] [] (by kernel_rfl) ?_
    refine A.ret ?_
    obtain rfl := some_inj hm
    exact A.fin W0 [] rfl (by kernel_rfl)
  refine A.cF rfl c3 ?_
  refine A.skip ?_
  show acode _ _ _ _ _
  obtain ⟨e_2, h4, hm⟩ := bnd_some hm
  refine A.RS W0 [] [(3, hix (ix eGLink h4))] [(6, .int .i64 e_2.CostB), (7, .bool true)] [] (by kernel_rfl) ?_
  refine A.ret ?_
  obtain rfl := some_inj hm
  exact A.fin W0 [] rfl (by kernel_rfl)
theorem m_topology_Without_ok {t : GTopology} {f : GFailure} {r : GTopology} (hm : m_topology_Without t f = some r) : RO Try.prog 19 [] [.agg [.lst false (ml eGRouter t.Routers), .lst false (ml eGLink t.Links)], .agg [.lst false (ml eGHop f.Links), .lst false (ml eInt f.Routers)]] (.agg [.lst false (ml eGRouter r.Routers), .lst false (ml eGLink r.Links)]) := by
  refine enterA Try.func19 rfl rfl ?_
  unfold m_topology_Without at hm
  refine A.RS W0 [] [(0, .al 19002), (1, .al 19003), (2, .al 19004)] [(2, .ptr 19002 0), (3, .ptr 19003 0), (4, .ptr 19004 0)] [(19002, .cells 26 [.lst false (ml eGRouter t.Routers), .lst false (ml eGLink t.Links)]), (19003, .cells 37 [.lst false (ml eGHop f.Links), .lst false (ml eInt f.Routers)]), (19004, .cells 26 [.nils, .nils])] (by kernel_rfl) ?_
  refine A.RS W0 [] [(0, .al 19005)] [(2, .ptr 19002 0), (3, .ptr 19003 0), (4, .ptr 19004 0), (5, .ptr 19005 0)] [(19002, .cells 26 [.lst false (ml eGRouter t.Routers), .lst false (ml eGLink t.Links)]), (19003, .cells 37 [.lst false (ml eGHop f.Links), .lst false (ml eInt f.Routers)]), (19004, .cells 26 [.nils, .nils]), (19005, .cells 26 [.nils, .nils])] (by kernel_rfl) ?_
  refine A.seq ?_
  obtain ⟨vx_1, h1, hm⟩ := bnd_some hm
  refine A.RS W0 [] [(1, hro (m_topology_valid_ok h1) ck67)] [(2, .ptr 19002 0), (3, .ptr 19003 0), (4, .ptr 19004 0), (5, .ptr 19005 0), (13, .bool (!vx_1))] [(19002, .cells 26 [.lst false (ml eGRouter t.Routers), .lst false (ml eGLink t.Links)]), (19003, .cells 37 [.lst false (ml eGHop f.Links), .lst false (ml eInt f.Routers)]), (19004, .cells 26 [.nils, .nils]), (19005, .cells 26 [.nils, .nils])] (by kernel_rfl) ?_
  rcases cs_some hm with ⟨c1, hm⟩ | ⟨c1, hm⟩
  · skip
    refine A.cT rfl c1 ?_
    refine A.RS W0 [] [] [(4, .ptr 19004 0)] [(19004, .cells 26 [.nils, .nils])] (by kernel_rfl) ?_
    refine A.ret ?_
    obtain rfl := some_inj hm
    exact A.fin W0 [] rfl (by kernel_rfl)
  refine A.cF rfl c1 ?_
  refine A.skip ?_
  show acode _ _ _ _ _
  refine A.seq ?_
  refine A.RS W0 [] [(2, hto (lnE eGRouter t.Routers))] [(2, .ptr 19002 0), (3, .ptr 19003 0), (4, .ptr 19004 0), (5, .ptr 19005 0), (16, .lst false (ml eGRouter t.Routers)), (17, .int .i64 (t.Routers.length:Int)), (18, .int .i64 (0:Int))] [(19002, .cells 26 [.lst false (ml eGRouter t.Routers), .lst false (ml eGLink t.Links)]), (19003, .cells 37 [.lst false (ml eGHop f.Links), .lst false (ml eInt f.Routers)]), (19004, .cells 26 [.nils, .nils]), (19005, .cells 26 [.nils, .nils])] (by kernel_rfl) ?_
  refine A.block ?_
  refine A.bS 16 rfl fun hb1 => ?_
  obtain ⟨B1, K1, hB1, hK1, hm⟩ := forI_some hm
  refine A.lpI (l := t.Routers) (j0 := 0) (B := B1) (K := K1) hm (fun j1 => fun m_1 => [(2, .ptr 19002 0), (3, .ptr 19003 0), (4, .ptr 19004 0), (5, .ptr 19005 0), (16, .lst false (ml eGRouter t.Routers)), (17, .int .i64 (t.Routers.length:Int)), (18, .int .i64 (j1 : Int))]) (fun j1 => fun m_1 => [(19002, .cells 26 [.lst false (ml eGRouter t.Routers), .lst false (ml eGLink t.Links)]), (19003, .cells 37 [.lst false (ml eGHop f.Links), .lst false (ml eInt f.Routers)]), (19004, .cells 26 [.nils, .nils]), (19005, .cells 26 [.own 701900500, .nils]), (701900500, .slice 55 2 (ml eGRouter m_1) 0 false)]) ?_ ?_ ?_
  · exact Weak.go [.ac 19005 701900500 55 2 0] [] (by kernel_rfl)
  · skip
    rintro j1 e1 Z1 m_1 hj1 hx1 hm
    rw [hB1] at hm
    refine A.RS W0 [] [] [(2, .ptr 19002 0), (3, .ptr 19003 0), (4, .ptr 19004 0), (5, .ptr 19005 0), (16, .lst false (ml eGRouter t.Routers)), (17, .int .i64 (t.Routers.length:Int)), (18, .int .i64 (j1 : Int)), (19, .bool (decide ((j1 : Int) < (t.Routers.length:Int))))] [(19002, .cells 26 [.lst false (ml eGRouter t.Routers), .lst false (ml eGLink t.Links)]), (19003, .cells 37 [.lst false (ml eGHop f.Links), .lst false (ml eInt f.Routers)]), (19004, .cells 26 [.nils, .nils]), (19005, .cells 26 [.own 701900500, .nils]), (701900500, .slice 55 2 (ml eGRouter m_1) 0 false)] (by kernel_rfl) ?_
    refine A.seq ?_
    refine A.cT rfl (ltT hx1) ?_
    refine A.skip ?_
    show acode _ _ _ _ _
    obtain ⟨J1, hJ1, hm⟩ := jn_some hm
    refine A.J (J := J1) (r := r) (fun m_2 => [(2, .ptr 19002 0), (3, .ptr 19003 0), (4, .ptr 19004 0), (5, .ptr 19005 0), (16, .lst false (ml eGRouter t.Routers)), (17, .int .i64 (t.Routers.length:Int)), (18, .int .i64 (j1 : Int))]) (fun m_2 => [(19002, .cells 26 [.lst false (ml eGRouter t.Routers), .lst false (ml eGLink t.Links)]), (19003, .cells 37 [.lst false (ml eGHop f.Links), .lst false (ml eInt f.Routers)]), (19004, .cells 26 [.nils, .nils]), (19005, .cells 26 [.own 701900500, .nils]), (701900500, .slice 55 2 (ml eGRouter m_2) 0 false)]) ?_ ?_
    · skip
      refine A.block ?_
      refine A.RS W0 [] [(0, hix (ix eGRouter (elO_nat hx1))), (2, .al 19007)] [(2, .ptr 19002 0), (3, .ptr 19003 0), (4, .ptr 19004 0), (5, .ptr 19005 0), (16, .lst false (ml eGRouter t.Routers)), (17, .int .i64 (t.Routers.length:Int)), (18, .int .i64 (j1 : Int)), (7, .ptr 19007 0)] [(19002, .cells 26 [.lst false (ml eGRouter t.Routers), .lst false (ml eGLink t.Links)]), (19003, .cells 37 [.lst false (ml eGHop f.Links), .lst false (ml eInt f.Routers)]), (19004, .cells 26 [.nils, .nils]), (19005, .cells 26 [.own 701900500, .nils]), (701900500, .slice 55 2 (ml eGRouter m_1) 0 false), (19007, .cells 55 [.int .i64 e1.ID, .bool e1.Capable])] (by kernel_rfl) ?_
      obtain ⟨vx_2, h2, hm⟩ := bnd_some hm
      refine A.RS W0 [] [(4, hro (m_slices_Contains_Lint_int_ok h2) ck68)] [(2, .ptr 19002 0), (3, .ptr 19003 0), (4, .ptr 19004 0), (5, .ptr 19005 0), (16, .lst false (ml eGRouter t.Routers)), (17, .int .i64 (t.Routers.length:Int)), (18, .int .i64 (j1 : Int)), (7, .ptr 19007 0), (27, .bool (!vx_2))] [(19002, .cells 26 [.lst false (ml eGRouter t.Routers), .lst false (ml eGLink t.Links)]), (19003, .cells 37 [.lst false (ml eGHop f.Links), .lst false (ml eInt f.Routers)]), (19004, .cells 26 [.nils, .nils]), (19005, .cells 26 [.own 701900500, .nils]), (701900500, .slice 55 2 (ml eGRouter m_1) 0 false), (19007, .cells 55 [.int .i64 e1.ID, .bool e1.Capable])] (by kernel_rfl) ?_
      rcases cs_some hm with ⟨c2, hm⟩ | ⟨c2, hm⟩
      · skip
        refine A.cT rfl c2 ?_
        obtain ⟨l_1, h3, hm⟩ := bnd_some hm
        refine A.R W0 [] [(4, hap 19532 (ap eGRouter (bytes := 16) (by decide) h3))] [(2, .ptr 19002 0), (3, .ptr 19003 0), (4, .ptr 19004 0), (5, .ptr 19005 0), (16, .lst false (ml eGRouter t.Routers)), (17, .int .i64 (t.Routers.length:Int)), (18, .int .i64 (j1 : Int))] [(19002, .cells 26 [.lst false (ml eGRouter t.Routers), .lst false (ml eGLink t.Links)]), (19003, .cells 37 [.lst false (ml eGHop f.Links), .lst false (ml eInt f.Routers)]), (19004, .cells 26 [.nils, .nils]), (19005, .cells 26 [.own 19532, .nils]), (19532, .slice 55 2 (ml eGRouter l_1) 0 false)] (by kernel_rfl) ?_
        exact Exists.intro l_1 (And.intro hm (Weak.go [.sw 19532 701900500] [] (by kernel_rfl)))
      refine A.cF rfl c2 ?_
      refine A.skip ?_
      exact Exists.intro m_1 (And.intro hm (Weak.go [] [] (by kernel_rfl)))
    rintro m_2 hm
    rw [hJ1] at hm
    refine A.R W0 [] [(0, hto (inc hx1 hb1))] [(2, .ptr 19002 0), (3, .ptr 19003 0), (4, .ptr 19004 0), (5, .ptr 19005 0), (16, .lst false (ml eGRouter t.Routers)), (17, .int .i64 (t.Routers.length:Int)), (18, .int .i64 ((j1 + 1 : Nat) : Int))] [(19002, .cells 26 [.lst false (ml eGRouter t.Routers), .lst false (ml eGLink t.Links)]), (19003, .cells 37 [.lst false (ml eGHop f.Links), .lst false (ml eInt f.Routers)]), (19004, .cells 26 [.nils, .nils]), (19005, .cells 26 [.own 701900500, .nils]), (701900500, .slice 55 2 (ml eGRouter m_2) 0 false)] (by kernel_rfl) ?_
    exact Exists.intro m_2 (And.intro hm (Weak.go [] [] (by kernel_rfl)))
  rintro j1 m_1 hj1 hl1 hm
  rw [hK1] at hm
  refine A.RS W0 [] [] [(2, .ptr 19002 0), (3, .ptr 19003 0), (4, .ptr 19004 0), (5, .ptr 19005 0), (16, .lst false (ml eGRouter t.Routers)), (17, .int .i64 (t.Routers.length:Int)), (18, .int .i64 (j1 : Int)), (19, .bool (decide ((j1 : Int) < (t.Routers.length:Int))))] [(19002, .cells 26 [.lst false (ml eGRouter t.Routers), .lst false (ml eGLink t.Links)]), (19003, .cells 37 [.lst false (ml eGHop f.Links), .lst false (ml eInt f.Routers)]), (19004, .cells 26 [.nils, .nils]), (19005, .cells 26 [.own 701900500, .nils]), (701900500, .slice 55 2 (ml eGRouter m_1) 0 false)] (by kernel_rfl) ?_
  refine A.seq ?_
  refine A.cF rfl (ltF hl1) ?_
  refine A.exit ?_
  show acode _ _ _ _ _
  refine A.seq ?_
  refine A.RS W0 [] [(2, hto (lnE eGLink t.Links))] [(3, .ptr 19003 0), (4, .ptr 19004 0), (5, .ptr 19005 0), (36, .lst false (ml eGLink t.Links)), (37, .int .i64 (t.Links.length:Int)), (38, .int .i64 (0:Int))] [(19003, .cells 37 [.lst false (ml eGHop f.Links), .lst false (ml eInt f.Routers)]), (19004, .cells 26 [.nils, .nils]), (19005, .cells 26 [.own 701900500, .nils]), (701900500, .slice 55 2 (ml eGRouter m_1) 0 false)] (by kernel_rfl) ?_
  refine A.block ?_
  refine A.bS 36 rfl fun hb2 => ?_
  obtain ⟨B2, K2, hB2, hK2, hm⟩ := forI_some hm
  refine A.lpI (l := t.Links) (j0 := 0) (B := B2) (K := K2) hm (fun j2 => fun m_3 => [(3, .ptr 19003 0), (4, .ptr 19004 0), (5, .ptr 19005 0), (36, .lst false (ml eGLink t.Links)), (37, .int .i64 (t.Links.length:Int)), (38, .int .i64 (j2 : Int))]) (fun j2 => fun m_3 => [(19003, .cells 37 [.lst false (ml eGHop f.Links), .lst false (ml eInt f.Routers)]), (19004, .cells 26 [.nils, .nils]), (19005, .cells 26 [.own 701900500, .own 701900501]), (701900500, .slice 55 2 (ml eGRouter m_1) 0 false), (701900501, .slice 50 5 (ml eGLink m_3) 0 false)]) ?_ ?_ ?_
  · exact Weak.go [.ac 19005 701900501 50 5 1] [] (by kernel_rfl)
  · skip
    rintro j2 e2 Z2 m_3 hj2 hx2 hm
    rw [hB2] at hm
    refine A.RS W0 [] [] [(3, .ptr 19003 0), (4, .ptr 19004 0), (5, .ptr 19005 0), (36, .lst false (ml eGLink t.Links)), (37, .int .i64 (t.Links.length:Int)), (38, .int .i64 (j2 : Int)), (39, .bool (decide ((j2 : Int) < (t.Links.length:Int))))] [(19003, .cells 37 [.lst false (ml eGHop f.Links), .lst false (ml eInt f.Routers)]), (19004, .cells 26 [.nils, .nils]), (19005, .cells 26 [.own 701900500, .own 701900501]), (701900500, .slice 55 2 (ml eGRouter m_1) 0 false), (701900501, .slice 50 5 (ml eGLink m_3) 0 false)] (by kernel_rfl) ?_
    refine A.seq ?_
    refine A.cT rfl (ltT hx2) ?_
    refine A.skip ?_
    show acode _ _ _ _ _
    obtain ⟨J2, hJ2, hm⟩ := jn_some hm
    refine A.J (J := J2) (r := r) (fun m_4 => [(3, .ptr 19003 0), (4, .ptr 19004 0), (5, .ptr 19005 0), (36, .lst false (ml eGLink t.Links)), (37, .int .i64 (t.Links.length:Int)), (38, .int .i64 (j2 : Int))]) (fun m_4 => [(19003, .cells 37 [.lst false (ml eGHop f.Links), .lst false (ml eInt f.Routers)]), (19004, .cells 26 [.nils, .nils]), (19005, .cells 26 [.own 701900500, .own 701900501]), (701900500, .slice 55 2 (ml eGRouter m_1) 0 false), (701900501, .slice 50 5 (ml eGLink m_4) 0 false)]) ?_ ?_
    · skip
      refine A.block ?_
      refine A.RS W0 [] [(0, hix (ix eGLink (elO_nat hx2))), (2, .al 19009)] [(3, .ptr 19003 0), (4, .ptr 19004 0), (5, .ptr 19005 0), (36, .lst false (ml eGLink t.Links)), (37, .int .i64 (t.Links.length:Int)), (38, .int .i64 (j2 : Int)), (9, .ptr 19009 0)] [(19003, .cells 37 [.lst false (ml eGHop f.Links), .lst false (ml eInt f.Routers)]), (19004, .cells 26 [.nils, .nils]), (19005, .cells 26 [.own 701900500, .own 701900501]), (701900500, .slice 55 2 (ml eGRouter m_1) 0 false), (701900501, .slice 50 5 (ml eGLink m_3) 0 false), (19009, .cells 50 [.int .i64 e2.A, .int .i64 e2.B, .int .i64 e2.CostA, .int .i64 e2.CostB, .int .i64 e2.Capacity])] (by kernel_rfl) ?_
      obtain ⟨J3, hJ3, hm⟩ := jn_some hm
      refine A.J (J := J3) (r := r) (fun gone_1 => [(3, .ptr 19003 0), (4, .ptr 19004 0), (5, .ptr 19005 0), (9, .ptr 19009 0), (10, .bool gone_1), (36, .lst false (ml eGLink t.Links)), (37, .int .i64 (t.Links.length:Int)), (38, .int .i64 (j2 : Int))]) (fun gone_1 => [(19003, .cells 37 [.lst false (ml eGHop f.Links), .lst false (ml eInt f.Routers)]), (19004, .cells 26 [.nils, .nils]), (19005, .cells 26 [.own 701900500, .own 701900501]), (701900500, .slice 55 2 (ml eGRouter m_1) 0 false), (701900501, .slice 50 5 (ml eGLink m_3) 0 false), (19009, .cells 50 [.int .i64 e2.A, .int .i64 e2.B, .int .i64 e2.CostA, .int .i64 e2.CostB, .int .i64 e2.Capacity])]) ?_ ?_
      · skip
        obtain ⟨vx_3, h4, hm⟩ := bnd_some hm
        rcases cs_some hm with ⟨c3, hm⟩ | ⟨c3, hm⟩
        · skip
          refine A.R W0 [] [(4, hro (m_slices_Contains_Lint_int_ok h4) ck68), (5, hto (bE c3))] [(3, .ptr 19003 0), (4, .ptr 19004 0), (5, .ptr 19005 0), (36, .lst false (ml eGLink t.Links)), (37, .int .i64 (t.Links.length:Int)), (38, .int .i64 (j2 : Int)), (9, .ptr 19009 0), (10, .bool true)] [(19003, .cells 37 [.lst false (ml eGHop f.Links), .lst false (ml eInt f.Routers)]), (19004, .cells 26 [.nils, .nils]), (19005, .cells 26 [.own 701900500, .own 701900501]), (701900500, .slice 55 2 (ml eGRouter m_1) 0 false), (701900501, .slice 50 5 (ml eGLink m_3) 0 false), (19009, .cells 50 [.int .i64 e2.A, .int .i64 e2.B, .int .i64 e2.CostA, .int .i64 e2.CostB, .int .i64 e2.Capacity])] (by kernel_rfl) ?_
          exact Exists.intro true (And.intro hm (Weak.go [] [] (by kernel_rfl)))
        obtain ⟨vx_4, h5, hm⟩ := bnd_some hm
        rcases cs_some hm with ⟨c4, hm⟩ | ⟨c4, hm⟩
        · skip
          refine A.R W0 [] [(4, hro (m_slices_Contains_Lint_int_ok h4) ck68), (5, hto (bE c3)), (10, hro (m_slices_Contains_Lint_int_ok h5) ck68), (12, hto (bE c4))] [(3, .ptr 19003 0), (4, .ptr 19004 0), (5, .ptr 19005 0), (36, .lst false (ml eGLink t.Links)), (37, .int .i64 (t.Links.length:Int)), (38, .int .i64 (j2 : Int)), (9, .ptr 19009 0), (10, .bool true)] [(19003, .cells 37 [.lst false (ml eGHop f.Links), .lst false (ml eInt f.Routers)]), (19004, .cells 26 [.nils, .nils]), (19005, .cells 26 [.own 701900500, .own 701900501]), (701900500, .slice 55 2 (ml eGRouter m_1) 0 false), (701900501, .slice 50 5 (ml eGLink m_3) 0 false), (19009, .cells 50 [.int .i64 e2.A, .int .i64 e2.B, .int .i64 e2.CostA, .int .i64 e2.CostB, .int .i64 e2.Capacity])] (by kernel_rfl) ?_
          exact Exists.intro true (And.intro hm (Weak.go [] [] (by kernel_rfl)))
        obtain ⟨vx_5, h6, hm⟩ := bnd_some hm
        rcases cs_some hm with ⟨c5, hm⟩ | ⟨c5, hm⟩
        · skip
          refine A.R W0 [] [(4, hro (m_slices_Contains_Lint_int_ok h4) ck68), (5, hto (bE c3)), (10, hro (m_slices_Contains_Lint_int_ok h5) ck68), (12, hto (bE c4)), (20, hro (m_slices_Contains_Lapi_Hop_api_Hop_ok h6) ck69), (22, hto (bE c5))] [(3, .ptr 19003 0), (4, .ptr 19004 0), (5, .ptr 19005 0), (36, .lst false (ml eGLink t.Links)), (37, .int .i64 (t.Links.length:Int)), (38, .int .i64 (j2 : Int)), (9, .ptr 19009 0), (10, .bool true)] [(19003, .cells 37 [.lst false (ml eGHop f.Links), .lst false (ml eInt f.Routers)]), (19004, .cells 26 [.nils, .nils]), (19005, .cells 26 [.own 701900500, .own 701900501]), (701900500, .slice 55 2 (ml eGRouter m_1) 0 false), (701900501, .slice 50 5 (ml eGLink m_3) 0 false), (19009, .cells 50 [.int .i64 e2.A, .int .i64 e2.B, .int .i64 e2.CostA, .int .i64 e2.CostB, .int .i64 e2.Capacity])] (by kernel_rfl) ?_
          exact Exists.intro true (And.intro hm (Weak.go [] [] (by kernel_rfl)))
        obtain ⟨vx_6, h7, hm⟩ := bnd_some hm
        refine A.R W0 [] [(4, hro (m_slices_Contains_Lint_int_ok h4) ck68), (5, hto (bE c3)), (10, hro (m_slices_Contains_Lint_int_ok h5) ck68), (12, hto (bE c4)), (20, hro (m_slices_Contains_Lapi_Hop_api_Hop_ok h6) ck69), (22, hto (bE c5)), (30, hro (m_slices_Contains_Lapi_Hop_api_Hop_ok h7) ck69)] [(3, .ptr 19003 0), (4, .ptr 19004 0), (5, .ptr 19005 0), (36, .lst false (ml eGLink t.Links)), (37, .int .i64 (t.Links.length:Int)), (38, .int .i64 (j2 : Int)), (9, .ptr 19009 0), (10, .bool vx_6)] [(19003, .cells 37 [.lst false (ml eGHop f.Links), .lst false (ml eInt f.Routers)]), (19004, .cells 26 [.nils, .nils]), (19005, .cells 26 [.own 701900500, .own 701900501]), (701900500, .slice 55 2 (ml eGRouter m_1) 0 false), (701900501, .slice 50 5 (ml eGLink m_3) 0 false), (19009, .cells 50 [.int .i64 e2.A, .int .i64 e2.B, .int .i64 e2.CostA, .int .i64 e2.CostB, .int .i64 e2.Capacity])] (by kernel_rfl) ?_
        exact Exists.intro vx_6 (And.intro hm (Weak.go [] [] (by kernel_rfl)))
      rintro gone_1 hm
      rw [hJ3] at hm
      refine A.RS W0 [] [] [(3, .ptr 19003 0), (4, .ptr 19004 0), (5, .ptr 19005 0), (9, .ptr 19009 0), (36, .lst false (ml eGLink t.Links)), (37, .int .i64 (t.Links.length:Int)), (38, .int .i64 (j2 : Int)), (75, .bool (!gone_1))] [(19003, .cells 37 [.lst false (ml eGHop f.Links), .lst false (ml eInt f.Routers)]), (19004, .cells 26 [.nils, .nils]), (19005, .cells 26 [.own 701900500, .own 701900501]), (701900500, .slice 55 2 (ml eGRouter m_1) 0 false), (701900501, .slice 50 5 (ml eGLink m_3) 0 false), (19009, .cells 50 [.int .i64 e2.A, .int .i64 e2.B, .int .i64 e2.CostA, .int .i64 e2.CostB, .int .i64 e2.Capacity])] (by kernel_rfl) ?_
      rcases cs_some hm with ⟨c6, hm⟩ | ⟨c6, hm⟩
      · skip
        refine A.cT rfl c6 ?_
        obtain ⟨l_2, h8, hm⟩ := bnd_some hm
        refine A.R W0 [] [(4, hap 19580 (ap eGLink (bytes := 40) (by decide) h8))] [(3, .ptr 19003 0), (4, .ptr 19004 0), (5, .ptr 19005 0), (36, .lst false (ml eGLink t.Links)), (37, .int .i64 (t.Links.length:Int)), (38, .int .i64 (j2 : Int))] [(19003, .cells 37 [.lst false (ml eGHop f.Links), .lst false (ml eInt f.Routers)]), (19004, .cells 26 [.nils, .nils]), (19005, .cells 26 [.own 701900500, .own 19580]), (701900500, .slice 55 2 (ml eGRouter m_1) 0 false), (19580, .slice 50 5 (ml eGLink l_2) 0 false)] (by kernel_rfl) ?_
        exact Exists.intro l_2 (And.intro hm (Weak.go [.sw 19580 701900501] [] (by kernel_rfl)))
      refine A.cF rfl c6 ?_
      refine A.skip ?_
      exact Exists.intro m_3 (And.intro hm (Weak.go [] [] (by kernel_rfl)))
    rintro m_4 hm
    rw [hJ2] at hm
    refine A.R W0 [] [(0, hto (inc hx2 hb2))] [(3, .ptr 19003 0), (4, .ptr 19004 0), (5, .ptr 19005 0), (36, .lst false (ml eGLink t.Links)), (37, .int .i64 (t.Links.length:Int)), (38, .int .i64 ((j2 + 1 : Nat) : Int))] [(19003, .cells 37 [.lst false (ml eGHop f.Links), .lst false (ml eInt f.Routers)]), (19004, .cells 26 [.nils, .nils]), (19005, .cells 26 [.own 701900500, .own 701900501]), (701900500, .slice 55 2 (ml eGRouter m_1) 0 false), (701900501, .slice 50 5 (ml eGLink m_4) 0 false)] (by kernel_rfl) ?_
    exact Exists.intro m_4 (And.intro hm (Weak.go [] [] (by kernel_rfl)))
  rintro j2 m_3 hj2 hl2 hm
  rw [hK2] at hm
  refine A.RS W0 [] [] [(3, .ptr 19003 0), (4, .ptr 19004 0), (5, .ptr 19005 0), (36, .lst false (ml eGLink t.Links)), (37, .int .i64 (t.Links.length:Int)), (38, .int .i64 (j2 : Int)), (39, .bool (decide ((j2 : Int) < (t.Links.length:Int))))] [(19003, .cells 37 [.lst false (ml eGHop f.Links), .lst false (ml eInt f.Routers)]), (19004, .cells 26 [.nils, .nils]), (19005, .cells 26 [.own 701900500, .own 701900501]), (701900500, .slice 55 2 (ml eGRouter m_1) 0 false), (701900501, .slice 50 5 (ml eGLink m_3) 0 false)] (by kernel_rfl) ?_
  refine A.seq ?_
  refine A.cF rfl (ltF hl2) ?_
  refine A.exit ?_
  show acode _ _ _ _ _
  refine A.RS W0 [] [] [(4, .ptr 19004 0)] [(19004, .cells 26 [.own 701900500, .own 701900501]), (701900500, .slice 55 2 (ml eGRouter m_1) 0 false), (701900501, .slice 50 5 (ml eGLink m_3) 0 false)] (by kernel_rfl) ?_
  refine A.ret ?_
  obtain rfl := some_inj hm
  exact A.fin W0 [.fz [701900500, 701900501]] rfl (by kernel_rfl)
end Go.Proofs.Ytggbjbcgfelgiaa
