/- The walks of functions of the program. No condition but those that stand in each. -/
import Derived.Test.YtmcjffllahcclaaGreatDA
namespace Go.Proofs.YtmcjffllahcclaaGreat
open Go
set_option maxRecDepth 100000
set_option linter.all false
theorem m_cmp_isNaN_int_ok {xa0 : Int} {r : Bool} (hm : m_cmp_isNaN_int xa0 = some r) : RO Tryz.prog 77 [] [.int .i64 xa0] (.bool r) := by
  refine enterA Tryz.func77 rfl rfl ?_
  unfold m_cmp_isNaN_int at hm
  refine A.RS W0 [] [] [(0, .int .i64 xa0)] [] (by kernel_rfl) ?_
  refine A.RS W0 [] [] [(2, .bool (!decide (xa0 = xa0)))] [] (by kernel_rfl) ?_
  refine A.ret ?_
  obtain rfl := some_inj hm
  exact A.fin W0 [] rfl (by kernel_rfl)
theorem m_cmp_Compare_int_ok {xa0 : Int} {y : Int} {r : Int} (hm : m_cmp_Compare_int xa0 y = some r) : RO Tryz.prog 54 [] [.int .i64 xa0, .int .i64 y] (.int .i64 r) := by
  refine enterA Tryz.func54 rfl rfl ?_
  unfold m_cmp_Compare_int at hm
  refine A.RS W0 [] [] [(0, .int .i64 xa0), (1, .int .i64 y)] [] (by kernel_rfl) ?_
  obtain ⟨vx_1, h1, hm⟩ := bnd_some hm
  refine A.RS W0 [] [(1, hro (m_cmp_isNaN_int_ok h1) ck77)] [(0, .int .i64 xa0), (1, .int .i64 y), (5, .bool vx_1)] [] (by kernel_rfl) ?_
  obtain ⟨vx_2, h2, hm⟩ := bnd_some hm
  refine A.RS W0 [] [(1, hro (m_cmp_isNaN_int_ok h2) ck77)] [(0, .int .i64 xa0), (1, .int .i64 y), (5, .bool vx_1), (6, .bool vx_2)] [] (by kernel_rfl) ?_
  refine A.seq ?_
  refine A.RS W0 [] [] [(0, .int .i64 xa0), (1, .int .i64 y), (6, .bool vx_2), (11, .bool vx_1)] [] (by kernel_rfl) ?_
  rcases cs_some hm with ⟨c1, hm⟩ | ⟨c1, hm⟩
  · skip
    refine A.cT rfl c1 ?_
    refine A.seq ?_
    refine A.RS W0 [] [] [(12, .bool vx_2)] [] (by kernel_rfl) ?_
    rcases cs_some hm with ⟨c2, hm⟩ | ⟨c2, hm⟩
    · skip
      refine A.cT rfl c2 ?_
      refine A.RS W0 [] [] [(4, .int .i64 (0:Int))] [] (by kernel_rfl) ?_
      refine A.ret ?_
      obtain rfl := some_inj hm
      exact A.fin W0 [] rfl (by kernel_rfl)
    refine A.cF rfl c2 ?_
    refine A.skip ?_
    show acode _ _ _ _ _
    refine A.RS W0 [] [] [(4, .int .i64 (-1:Int))] [] (by kernel_rfl) ?_
    refine A.ret ?_
    obtain rfl := some_inj hm
    exact A.fin W0 [] rfl (by kernel_rfl)
  refine A.cF rfl c1 ?_
  refine A.skip ?_
  show acode _ _ _ _ _
  refine A.seq ?_
  refine A.RS W0 [] [] [(0, .int .i64 xa0), (1, .int .i64 y), (13, .bool vx_2)] [] (by kernel_rfl) ?_
  rcases cs_some hm with ⟨c3, hm⟩ | ⟨c3, hm⟩
  · skip
    refine A.cT rfl c3 ?_
    refine A.RS W0 [] [] [(4, .int .i64 (1:Int))] [] (by kernel_rfl) ?_
    refine A.ret ?_
    obtain rfl := some_inj hm
    exact A.fin W0 [] rfl (by kernel_rfl)
  refine A.cF rfl c3 ?_
  refine A.skip ?_
  show acode _ _ _ _ _
  refine A.seq ?_
  refine A.RS W0 [] [] [(0, .int .i64 xa0), (1, .int .i64 y), (16, .bool (decide (xa0 < y)))] [] (by kernel_rfl) ?_
  rcases cs_some hm with ⟨c4, hm⟩ | ⟨c4, hm⟩
  · skip
    refine A.cT rfl c4 ?_
    refine A.RS W0 [] [] [(4, .int .i64 (-1:Int))] [] (by kernel_rfl) ?_
    refine A.ret ?_
    obtain rfl := some_inj hm
    exact A.fin W0 [] rfl (by kernel_rfl)
  refine A.cF rfl c4 ?_
  refine A.skip ?_
  show acode _ _ _ _ _
  refine A.seq ?_
  refine A.RS W0 [] [] [(19, .bool (decide (y < xa0)))] [] (by kernel_rfl) ?_
  rcases cs_some hm with ⟨c5, hm⟩ | ⟨c5, hm⟩
  · skip
    refine A.cT rfl c5 ?_
    refine A.RS W0 [] [] [(4, .int .i64 (1:Int))] [] (by kernel_rfl) ?_
    refine A.ret ?_
    obtain rfl := some_inj hm
    exact A.fin W0 [] rfl (by kernel_rfl)
  refine A.cF rfl c5 ?_
  refine A.skip ?_
  show acode _ _ _ _ _
  refine A.RS W0 [] [] [(4, .int .i64 (0:Int))] [] (by kernel_rfl) ?_
  refine A.ret ?_
  obtain rfl := some_inj hm
  exact A.fin W0 [] rfl (by kernel_rfl)
theorem m_cmp_Or_int_ok {vals : List Int} {r : Int} (hm : m_cmp_Or_int vals = some r) : RO Tryz.prog 57 [] [.lst false (ml eInt vals)] (.int .i64 r) := by
  refine enterA Tryz.func57 rfl rfl ?_
  unfold m_cmp_Or_int at hm
  refine A.RS W0 [] [] [(0, .lst false (ml eInt vals))] [] (by kernel_rfl) ?_
  refine A.RS W0 [] [] [(0, .lst false (ml eInt vals)), (3, .int .i64 (0:Int))] [] (by kernel_rfl) ?_
  refine A.seq ?_
  refine A.RS W0 [] [(1, hto (lnE eInt vals))] [(3, .int .i64 (0:Int)), (6, .lst false (ml eInt vals)), (7, .int .i64 (vals.length:Int)), (8, .int .i64 (0:Int))] [] (by kernel_rfl) ?_
  refine A.block ?_
  refine A.bS 6 rfl fun hb1 => ?_
  obtain ⟨B1, K1, hB1, hK1, hm⟩ := forI_some hm
  refine A.lpI (l := vals) (j0 := 0) (B := B1) (K := K1) hm (fun j1 => fun sg => match sg with | () => [(3, .int .i64 (0:Int)), (6, .lst false (ml eInt vals)), (7, .int .i64 (vals.length:Int)), (8, .int .i64 (j1 : Int))]) (fun j1 => fun sg => match sg with | () => []) ?_ ?_ ?_
  · exact Weak.go [] [] (by kernel_rfl)
  · skip
    rintro j1 e1 Z1 ⟨⟩ hj1 hx1 hm
    rw [hB1] at hm
    refine A.RS W0 [] [] [(3, .int .i64 (0:Int)), (6, .lst false (ml eInt vals)), (7, .int .i64 (vals.length:Int)), (8, .int .i64 (j1 : Int)), (9, .bool (decide ((j1 : Int) < (vals.length:Int))))] [] (by kernel_rfl) ?_
    refine A.seq ?_
    refine A.cT rfl (ltT hx1) ?_
    refine A.skip ?_
    show acode _ _ _ _ _
    refine A.seq ?_
    refine A.block ?_
    refine A.RS W0 [] [(0, hix (ix eInt (elO_nat hx1)))] [(3, .int .i64 (0:Int)), (6, .lst false (ml eInt vals)), (7, .int .i64 (vals.length:Int)), (8, .int .i64 (j1 : Int)), (5, .int .i64 e1)] [] (by kernel_rfl) ?_
    refine A.RS W0 [] [] [(3, .int .i64 (0:Int)), (6, .lst false (ml eInt vals)), (7, .int .i64 (vals.length:Int)), (8, .int .i64 (j1 : Int)), (5, .int .i64 e1), (14, .bool (!decide (e1 = (0:Int))))] [] (by kernel_rfl) ?_
    rcases cs_some hm with ⟨c1, hm⟩ | ⟨c1, hm⟩
    · skip
      refine A.cT rfl c1 ?_
      refine A.RS W0 [] [] [(2, .int .i64 e1)] [] (by kernel_rfl) ?_
      refine A.ret ?_
      obtain rfl := some_inj hm
      exact A.fin W0 [] rfl (by kernel_rfl)
    refine A.cF rfl c1 ?_
    refine A.skip ?_
    show acode _ _ _ _ _
    refine A.R W0 [] [(0, hto (inc hx1 hb1))] [(3, .int .i64 (0:Int)), (6, .lst false (ml eInt vals)), (7, .int .i64 (vals.length:Int)), (8, .int .i64 ((j1 + 1 : Nat) : Int))] [] (by kernel_rfl) ?_
    exact Exists.intro () (And.intro hm (Weak.go [] [] (by kernel_rfl)))
  rintro j1 ⟨⟩ hj1 hl1 hm
  rw [hK1] at hm
  refine A.RS W0 [] [] [(3, .int .i64 (0:Int)), (6, .lst false (ml eInt vals)), (7, .int .i64 (vals.length:Int)), (8, .int .i64 (j1 : Int)), (9, .bool (decide ((j1 : Int) < (vals.length:Int))))] [] (by kernel_rfl) ?_
  refine A.seq ?_
  refine A.cF rfl (ltF hl1) ?_
  refine A.exit ?_
  show acode _ _ _ _ _
  refine A.RS W0 [] [] [(2, .int .i64 (0:Int))] [] (by kernel_rfl) ?_
  refine A.ret ?_
  obtain rfl := some_inj hm
  exact A.fin W0 [] rfl (by kernel_rfl)
theorem m_slices_BinarySearchFunc_Lapi_Advert_api_Advert_int_ok {xa0 : List GAdvert} {target : Int} {cmp : GAdvert → Int → Option Int} {cmp_g : Nat} {cmp_c : List AV} (cmp_k : CallOk Tryz.prog cmp_g) (cmp_f : ∀ (y0 : GAdvert) (y1 : Int) (q : Int), cmp y0 y1 = some q → RO Tryz.prog cmp_g [] ([.agg [.int .i64 y0.Router, .int .i64 y0.Seq, .bool y0.Capable, .lst false (ml eGReach y0.Links), .lst false (ml eGClaim y0.Claims)], .int .i64 y1] ++ cmp_c) (.int .i64 q)) {r : Int × Bool} (hm : m_slices_BinarySearchFunc_Lapi_Advert_api_Advert_int xa0 target cmp = some r) : RO Tryz.prog 66 [] [.lst false (ml eGAdvert xa0), .int .i64 target, .cfn cmp_g cmp_c] (.tup [.int .i64 r.1, .bool r.2]) := by
  refine enterA Tryz.func66 rfl rfl ?_
  unfold m_slices_BinarySearchFunc_Lapi_Advert_api_Advert_int at hm
  refine A.RS W0 [] [] [(0, .lst false (ml eGAdvert xa0)), (1, .int .i64 target), (2, .cfn cmp_g cmp_c)] [] (by kernel_rfl) ?_
  refine A.RS W0 [] [(1, hto (lnE eGAdvert xa0))] [(0, .lst false (ml eGAdvert xa0)), (1, .int .i64 target), (2, .cfn cmp_g cmp_c), (8, .int .i64 (xa0.length:Int))] [] (by kernel_rfl) ?_
  refine A.RS W0 [] [] [(0, .lst false (ml eGAdvert xa0)), (1, .int .i64 target), (2, .cfn cmp_g cmp_c), (8, .int .i64 (xa0.length:Int)), (9, .int .i64 (0:Int)), (10, .int .i64 (xa0.length:Int))] [] (by kernel_rfl) ?_
  refine A.seq ?_
  refine A.block ?_
  obtain ⟨F1, n1, hF1, hm⟩ := whl_some hm
  refine A.lpW (F := F1) hm (fun sg => match sg with | (i_1, j_1) => [(0, .lst false (ml eGAdvert xa0)), (1, .int .i64 target), (2, .cfn cmp_g cmp_c), (8, .int .i64 (xa0.length:Int)), (9, .int .i64 i_1), (10, .int .i64 j_1)]) (fun sg => match sg with | (i_1, j_1) => []) ?_ ?_
  · exact Weak.go [] [] (by kernel_rfl)
  rintro Z1 ⟨i_1, j_1⟩ hm
  rw [hF1] at hm
  refine A.seq ?_
  refine A.RS W0 [] [] [(0, .lst false (ml eGAdvert xa0)), (1, .int .i64 target), (2, .cfn cmp_g cmp_c), (8, .int .i64 (xa0.length:Int)), (9, .int .i64 i_1), (10, .int .i64 j_1), (17, .bool (decide (i_1 < j_1)))] [] (by kernel_rfl) ?_
  rcases cs_some hm with ⟨c1, hm⟩ | ⟨c1, hm⟩
  · skip
    refine A.cT rfl c1 ?_
    refine A.skip ?_
    show acode _ _ _ _ _
    refine A.block ?_
    refine A.RS W0 [] [(4, .sh (1:Int) (by decide))] [(0, .lst false (ml eGAdvert xa0)), (1, .int .i64 target), (2, .cfn cmp_g cmp_c), (8, .int .i64 (xa0.length:Int)), (9, .int .i64 i_1), (10, .int .i64 j_1), (11, .int .i64 (w64 (Int.fdiv (IntKind.wrap .u64 (w64 (i_1 + j_1))) (2 ^ min (1:Int).toNat 64))))] [] (by kernel_rfl) ?_
    obtain ⟨e_1, h1, hm⟩ := bnd_some hm
    obtain ⟨vx_1, h2, hm⟩ := bnd_some hm
    refine A.RS W0 [] [(3, hix (ix eGAdvert h1)), (6, hrf (cmp_f _ _ _ h2) cmp_k)] [(0, .lst false (ml eGAdvert xa0)), (1, .int .i64 target), (2, .cfn cmp_g cmp_c), (8, .int .i64 (xa0.length:Int)), (9, .int .i64 i_1), (10, .int .i64 j_1), (11, .int .i64 (w64 (Int.fdiv (IntKind.wrap .u64 (w64 (i_1 + j_1))) (2 ^ min (1:Int).toNat 64)))), (31, .bool (decide (vx_1 < (0:Int))))] [] (by kernel_rfl) ?_
    rcases cs_some hm with ⟨c2, hm⟩ | ⟨c2, hm⟩
    · skip
      refine A.cT rfl c2 ?_
      refine A.R W0 [] [] [(0, .lst false (ml eGAdvert xa0)), (1, .int .i64 target), (2, .cfn cmp_g cmp_c), (8, .int .i64 (xa0.length:Int)), (9, .int .i64 (w64 ((w64 (Int.fdiv (IntKind.wrap .u64 (w64 (i_1 + j_1))) (2 ^ min (1:Int).toNat 64))) + (1:Int)))), (10, .int .i64 j_1)] [] (by kernel_rfl) ?_
      exact Exists.intro (w64 ((w64 (Int.fdiv (IntKind.wrap .u64 (w64 (i_1 + j_1))) (2 ^ min (1:Int).toNat 64))) + (1:Int)), j_1) (And.intro hm (Weak.go [] [] (by kernel_rfl)))
    refine A.cF rfl c2 ?_
    refine A.R W0 [] [] [(0, .lst false (ml eGAdvert xa0)), (1, .int .i64 target), (2, .cfn cmp_g cmp_c), (8, .int .i64 (xa0.length:Int)), (9, .int .i64 i_1), (10, .int .i64 (w64 (Int.fdiv (IntKind.wrap .u64 (w64 (i_1 + j_1))) (2 ^ min (1:Int).toNat 64))))] [] (by kernel_rfl) ?_
    exact Exists.intro (i_1, w64 (Int.fdiv (IntKind.wrap .u64 (w64 (i_1 + j_1))) (2 ^ min (1:Int).toNat 64))) (And.intro hm (Weak.go [] [] (by kernel_rfl)))
  refine A.cF rfl c1 ?_
  refine A.exit ?_
  show acode _ _ _ _ _
  rcases cs_some hm with ⟨c3, hm⟩ | ⟨c3, hm⟩
  · skip
    obtain ⟨e_2, h3, hm⟩ := bnd_some hm
    obtain ⟨vx_2, h4, hm⟩ := bnd_some hm
    refine A.RS W0 [] [(4, hto (bE c3)), (8, hix (ix eGAdvert h3)), (11, hrf (cmp_f _ _ _ h4) cmp_k)] [(6, .int .i64 i_1), (7, .bool (decide (vx_2 = (0:Int))))] [] (by kernel_rfl) ?_
    refine A.ret ?_
    obtain rfl := some_inj hm
    exact A.fin W0 [] rfl (by kernel_rfl)
  refine A.RS W0 [] [(4, hto (bE c3))] [(6, .int .i64 i_1), (7, .bool false)] [] (by kernel_rfl) ?_
  refine A.ret ?_
  obtain rfl := some_inj hm
  exact A.fin W0 [] rfl (by kernel_rfl)
theorem m_slices_BinarySearchFunc_Lapi_Router_api_Router_int_ok {xa0 : List GRouter} {target : Int} {cmp : GRouter → Int → Option Int} {cmp_g : Nat} {cmp_c : List AV} (cmp_k : CallOk Tryz.prog cmp_g) (cmp_f : ∀ (y0 : GRouter) (y1 : Int) (q : Int), cmp y0 y1 = some q → RO Tryz.prog cmp_g [] ([.agg [.int .i64 y0.ID, .bool y0.Capable], .int .i64 y1] ++ cmp_c) (.int .i64 q)) {r : Int × Bool} (hm : m_slices_BinarySearchFunc_Lapi_Router_api_Router_int xa0 target cmp = some r) : RO Tryz.prog 83 [] [.lst false (ml eGRouter xa0), .int .i64 target, .cfn cmp_g cmp_c] (.tup [.int .i64 r.1, .bool r.2]) := by
  refine enterA Tryz.func83 rfl rfl ?_
  unfold m_slices_BinarySearchFunc_Lapi_Router_api_Router_int at hm
  refine A.RS W0 [] [] [(0, .lst false (ml eGRouter xa0)), (1, .int .i64 target), (2, .cfn cmp_g cmp_c)] [] (by kernel_rfl) ?_
  refine A.RS W0 [] [(1, hto (lnE eGRouter xa0))] [(0, .lst false (ml eGRouter xa0)), (1, .int .i64 target), (2, .cfn cmp_g cmp_c), (8, .int .i64 (xa0.length:Int))] [] (by kernel_rfl) ?_
  refine A.RS W0 [] [] [(0, .lst false (ml eGRouter xa0)), (1, .int .i64 target), (2, .cfn cmp_g cmp_c), (8, .int .i64 (xa0.length:Int)), (9, .int .i64 (0:Int)), (10, .int .i64 (xa0.length:Int))] [] (by kernel_rfl) ?_
  refine A.seq ?_
  refine A.block ?_
  obtain ⟨F1, n1, hF1, hm⟩ := whl_some hm
  refine A.lpW (F := F1) hm (fun sg => match sg with | (i_1, j_1) => [(0, .lst false (ml eGRouter xa0)), (1, .int .i64 target), (2, .cfn cmp_g cmp_c), (8, .int .i64 (xa0.length:Int)), (9, .int .i64 i_1), (10, .int .i64 j_1)]) (fun sg => match sg with | (i_1, j_1) => []) ?_ ?_
  · exact Weak.go [] [] (by kernel_rfl)
  rintro Z1 ⟨i_1, j_1⟩ hm
  rw [hF1] at hm
  refine A.seq ?_
  refine A.RS W0 [] [] [(0, .lst false (ml eGRouter xa0)), (1, .int .i64 target), (2, .cfn cmp_g cmp_c), (8, .int .i64 (xa0.length:Int)), (9, .int .i64 i_1), (10, .int .i64 j_1), (17, .bool (decide (i_1 < j_1)))] [] (by kernel_rfl) ?_
  rcases cs_some hm with ⟨c1, hm⟩ | ⟨c1, hm⟩
  · skip
    refine A.cT rfl c1 ?_
    refine A.skip ?_
    show acode _ _ _ _ _
    refine A.block ?_
    refine A.RS W0 [] [(4, .sh (1:Int) (by decide))] [(0, .lst false (ml eGRouter xa0)), (1, .int .i64 target), (2, .cfn cmp_g cmp_c), (8, .int .i64 (xa0.length:Int)), (9, .int .i64 i_1), (10, .int .i64 j_1), (11, .int .i64 (w64 (Int.fdiv (IntKind.wrap .u64 (w64 (i_1 + j_1))) (2 ^ min (1:Int).toNat 64))))] [] (by kernel_rfl) ?_
    obtain ⟨e_1, h1, hm⟩ := bnd_some hm
    obtain ⟨vx_1, h2, hm⟩ := bnd_some hm
    refine A.RS W0 [] [(3, hix (ix eGRouter h1)), (6, hrf (cmp_f _ _ _ h2) cmp_k)] [(0, .lst false (ml eGRouter xa0)), (1, .int .i64 target), (2, .cfn cmp_g cmp_c), (8, .int .i64 (xa0.length:Int)), (9, .int .i64 i_1), (10, .int .i64 j_1), (11, .int .i64 (w64 (Int.fdiv (IntKind.wrap .u64 (w64 (i_1 + j_1))) (2 ^ min (1:Int).toNat 64)))), (31, .bool (decide (vx_1 < (0:Int))))] [] (by kernel_rfl) ?_
    rcases cs_some hm with ⟨c2, hm⟩ | ⟨c2, hm⟩
    · skip
      refine A.cT rfl c2 ?_
      refine A.R W0 [] [] [(0, .lst false (ml eGRouter xa0)), (1, .int .i64 target), (2, .cfn cmp_g cmp_c), (8, .int .i64 (xa0.length:Int)), (9, .int .i64 (w64 ((w64 (Int.fdiv (IntKind.wrap .u64 (w64 (i_1 + j_1))) (2 ^ min (1:Int).toNat 64))) + (1:Int)))), (10, .int .i64 j_1)] [] (by kernel_rfl) ?_
      exact Exists.intro (w64 ((w64 (Int.fdiv (IntKind.wrap .u64 (w64 (i_1 + j_1))) (2 ^ min (1:Int).toNat 64))) + (1:Int)), j_1) (And.intro hm (Weak.go [] [] (by kernel_rfl)))
    refine A.cF rfl c2 ?_
    refine A.R W0 [] [] [(0, .lst false (ml eGRouter xa0)), (1, .int .i64 target), (2, .cfn cmp_g cmp_c), (8, .int .i64 (xa0.length:Int)), (9, .int .i64 i_1), (10, .int .i64 (w64 (Int.fdiv (IntKind.wrap .u64 (w64 (i_1 + j_1))) (2 ^ min (1:Int).toNat 64))))] [] (by kernel_rfl) ?_
    exact Exists.intro (i_1, w64 (Int.fdiv (IntKind.wrap .u64 (w64 (i_1 + j_1))) (2 ^ min (1:Int).toNat 64))) (And.intro hm (Weak.go [] [] (by kernel_rfl)))
  refine A.cF rfl c1 ?_
  refine A.exit ?_
  show acode _ _ _ _ _
  rcases cs_some hm with ⟨c3, hm⟩ | ⟨c3, hm⟩
  · skip
    obtain ⟨e_2, h3, hm⟩ := bnd_some hm
    obtain ⟨vx_2, h4, hm⟩ := bnd_some hm
    refine A.RS W0 [] [(4, hto (bE c3)), (8, hix (ix eGRouter h3)), (11, hrf (cmp_f _ _ _ h4) cmp_k)] [(6, .int .i64 i_1), (7, .bool (decide (vx_2 = (0:Int))))] [] (by kernel_rfl) ?_
    refine A.ret ?_
    obtain rfl := some_inj hm
    exact A.fin W0 [] rfl (by kernel_rfl)
  refine A.RS W0 [] [(4, hto (bE c3))] [(6, .int .i64 i_1), (7, .bool false)] [] (by kernel_rfl) ?_
  refine A.ret ?_
  obtain rfl := some_inj hm
  exact A.fin W0 [] rfl (by kernel_rfl)
theorem m_slices_IndexFunc_Lapi_Advert_api_Advert_ok {sa0 : List GAdvert} {f : GAdvert → Option Bool} {f_g : Nat} {f_c : List AV} (f_k : CallOk Tryz.prog f_g) (f_f : ∀ (y0 : GAdvert) (q : Bool), f y0 = some q → RO Tryz.prog f_g [] ([.agg [.int .i64 y0.Router, .int .i64 y0.Seq, .bool y0.Capable, .lst false (ml eGReach y0.Links), .lst false (ml eGClaim y0.Claims)]] ++ f_c) (.bool q)) {r : Int} (hm : m_slices_IndexFunc_Lapi_Advert_api_Advert sa0 f = some r) : RO Tryz.prog 96 [] [.lst false (ml eGAdvert sa0), .cfn f_g f_c] (.int .i64 r) := by
  refine enterA Tryz.func96 rfl rfl ?_
  unfold m_slices_IndexFunc_Lapi_Advert_api_Advert at hm
  refine A.RS W0 [] [] [(0, .lst false (ml eGAdvert sa0)), (1, .cfn f_g f_c)] [] (by kernel_rfl) ?_
  refine A.seq ?_
  refine A.RS W0 [] [(1, hto (lnE eGAdvert sa0))] [(0, .lst false (ml eGAdvert sa0)), (1, .cfn f_g f_c), (7, .int .i64 (sa0.length:Int)), (8, .int .i64 (0:Int))] [] (by kernel_rfl) ?_
  refine A.block ?_
  refine A.bS 0 rfl fun hb1 => ?_
  obtain ⟨B1, K1, hB1, hK1, hm⟩ := forI_some hm
  refine A.lpI (l := sa0) (j0 := 0) (B := B1) (K := K1) hm (fun j1 => fun sg => match sg with | () => [(0, .lst false (ml eGAdvert sa0)), (1, .cfn f_g f_c), (7, .int .i64 (sa0.length:Int)), (8, .int .i64 (j1 : Int))]) (fun j1 => fun sg => match sg with | () => []) ?_ ?_ ?_
  · exact Weak.go [] [] (by kernel_rfl)
  · skip
    rintro j1 e1 Z1 ⟨⟩ hj1 hx1 hm
    rw [hB1] at hm
    refine A.RS W0 [] [] [(0, .lst false (ml eGAdvert sa0)), (1, .cfn f_g f_c), (7, .int .i64 (sa0.length:Int)), (8, .int .i64 (j1 : Int)), (9, .bool (decide ((j1 : Int) < (sa0.length:Int))))] [] (by kernel_rfl) ?_
    refine A.seq ?_
    refine A.cT rfl (ltT hx1) ?_
    refine A.skip ?_
    show acode _ _ _ _ _
    refine A.seq ?_
    refine A.block ?_
    refine A.RS W0 [] [] [(0, .lst false (ml eGAdvert sa0)), (1, .cfn f_g f_c), (7, .int .i64 (sa0.length:Int)), (8, .int .i64 (j1 : Int)), (5, .int .i64 (j1 : Int))] [] (by kernel_rfl) ?_
    obtain ⟨vx_1, h1, hm⟩ := bnd_some hm
    refine A.RS W0 [] [(3, hix (ix eGAdvert (elO_nat hx1))), (5, hrf (f_f _ _ h1) f_k)] [(0, .lst false (ml eGAdvert sa0)), (1, .cfn f_g f_c), (7, .int .i64 (sa0.length:Int)), (8, .int .i64 (j1 : Int)), (5, .int .i64 (j1 : Int)), (16, .bool vx_1)] [] (by kernel_rfl) ?_
    rcases cs_some hm with ⟨c1, hm⟩ | ⟨c1, hm⟩
    · skip
      refine A.cT rfl c1 ?_
      refine A.RS W0 [] [] [(4, .int .i64 (j1 : Int))] [] (by kernel_rfl) ?_
      refine A.ret ?_
      obtain rfl := some_inj hm
      exact A.fin W0 [] rfl (by kernel_rfl)
    refine A.cF rfl c1 ?_
    refine A.skip ?_
    show acode _ _ _ _ _
    refine A.R W0 [] [(0, hto (inc hx1 hb1))] [(0, .lst false (ml eGAdvert sa0)), (1, .cfn f_g f_c), (7, .int .i64 (sa0.length:Int)), (8, .int .i64 ((j1 + 1 : Nat) : Int))] [] (by kernel_rfl) ?_
    exact Exists.intro () (And.intro hm (Weak.go [] [] (by kernel_rfl)))
  rintro j1 ⟨⟩ hj1 hl1 hm
  rw [hK1] at hm
  refine A.RS W0 [] [] [(0, .lst false (ml eGAdvert sa0)), (1, .cfn f_g f_c), (7, .int .i64 (sa0.length:Int)), (8, .int .i64 (j1 : Int)), (9, .bool (decide ((j1 : Int) < (sa0.length:Int))))] [] (by kernel_rfl) ?_
  refine A.seq ?_
  refine A.cF rfl (ltF hl1) ?_
  refine A.exit ?_
  show acode _ _ _ _ _
  refine A.RS W0 [] [] [(4, .int .i64 (-1:Int))] [] (by kernel_rfl) ?_
  refine A.ret ?_
  obtain rfl := some_inj hm
  exact A.fin W0 [] rfl (by kernel_rfl)
theorem m_slices_IndexFunc_Lapi_Router_api_Router_ok {sa0 : List GRouter} {f : GRouter → Option Bool} {f_g : Nat} {f_c : List AV} (f_k : CallOk Tryz.prog f_g) (f_f : ∀ (y0 : GRouter) (q : Bool), f y0 = some q → RO Tryz.prog f_g [] ([.agg [.int .i64 y0.ID, .bool y0.Capable]] ++ f_c) (.bool q)) {r : Int} (hm : m_slices_IndexFunc_Lapi_Router_api_Router sa0 f = some r) : RO Tryz.prog 120 [] [.lst false (ml eGRouter sa0), .cfn f_g f_c] (.int .i64 r) := by
  refine enterA Tryz.func120 rfl rfl ?_
  unfold m_slices_IndexFunc_Lapi_Router_api_Router at hm
  refine A.RS W0 [] [] [(0, .lst false (ml eGRouter sa0)), (1, .cfn f_g f_c)] [] (by kernel_rfl) ?_
  refine A.seq ?_
  refine A.RS W0 [] [(1, hto (lnE eGRouter sa0))] [(0, .lst false (ml eGRouter sa0)), (1, .cfn f_g f_c), (7, .int .i64 (sa0.length:Int)), (8, .int .i64 (0:Int))] [] (by kernel_rfl) ?_
  refine A.block ?_
  refine A.bS 0 rfl fun hb1 => ?_
  obtain ⟨B1, K1, hB1, hK1, hm⟩ := forI_some hm
  refine A.lpI (l := sa0) (j0 := 0) (B := B1) (K := K1) hm (fun j1 => fun sg => match sg with | () => [(0, .lst false (ml eGRouter sa0)), (1, .cfn f_g f_c), (7, .int .i64 (sa0.length:Int)), (8, .int .i64 (j1 : Int))]) (fun j1 => fun sg => match sg with | () => []) ?_ ?_ ?_
  · exact Weak.go [] [] (by kernel_rfl)
  · skip
    rintro j1 e1 Z1 ⟨⟩ hj1 hx1 hm
    rw [hB1] at hm
    refine A.RS W0 [] [] [(0, .lst false (ml eGRouter sa0)), (1, .cfn f_g f_c), (7, .int .i64 (sa0.length:Int)), (8, .int .i64 (j1 : Int)), (9, .bool (decide ((j1 : Int) < (sa0.length:Int))))] [] (by kernel_rfl) ?_
    refine A.seq ?_
    refine A.cT rfl (ltT hx1) ?_
    refine A.skip ?_
    show acode _ _ _ _ _
    refine A.seq ?_
    refine A.block ?_
    refine A.RS W0 [] [] [(0, .lst false (ml eGRouter sa0)), (1, .cfn f_g f_c), (7, .int .i64 (sa0.length:Int)), (8, .int .i64 (j1 : Int)), (5, .int .i64 (j1 : Int))] [] (by kernel_rfl) ?_
    obtain ⟨vx_1, h1, hm⟩ := bnd_some hm
    refine A.RS W0 [] [(3, hix (ix eGRouter (elO_nat hx1))), (5, hrf (f_f _ _ h1) f_k)] [(0, .lst false (ml eGRouter sa0)), (1, .cfn f_g f_c), (7, .int .i64 (sa0.length:Int)), (8, .int .i64 (j1 : Int)), (5, .int .i64 (j1 : Int)), (16, .bool vx_1)] [] (by kernel_rfl) ?_
    rcases cs_some hm with ⟨c1, hm⟩ | ⟨c1, hm⟩
    · skip
      refine A.cT rfl c1 ?_
      refine A.RS W0 [] [] [(4, .int .i64 (j1 : Int))] [] (by kernel_rfl) ?_
      refine A.ret ?_
      obtain rfl := some_inj hm
      exact A.fin W0 [] rfl (by kernel_rfl)
    refine A.cF rfl c1 ?_
    refine A.skip ?_
    show acode _ _ _ _ _
    refine A.R W0 [] [(0, hto (inc hx1 hb1))] [(0, .lst false (ml eGRouter sa0)), (1, .cfn f_g f_c), (7, .int .i64 (sa0.length:Int)), (8, .int .i64 ((j1 + 1 : Nat) : Int))] [] (by kernel_rfl) ?_
    exact Exists.intro () (And.intro hm (Weak.go [] [] (by kernel_rfl)))
  rintro j1 ⟨⟩ hj1 hl1 hm
  rw [hK1] at hm
  refine A.RS W0 [] [] [(0, .lst false (ml eGRouter sa0)), (1, .cfn f_g f_c), (7, .int .i64 (sa0.length:Int)), (8, .int .i64 (j1 : Int)), (9, .bool (decide ((j1 : Int) < (sa0.length:Int))))] [] (by kernel_rfl) ?_
  refine A.seq ?_
  refine A.cF rfl (ltF hl1) ?_
  refine A.exit ?_
  show acode _ _ _ _ _
  refine A.RS W0 [] [] [(4, .int .i64 (-1:Int))] [] (by kernel_rfl) ?_
  refine A.ret ?_
  obtain rfl := some_inj hm
  exact A.fin W0 [] rfl (by kernel_rfl)
theorem m_slices_IndexFunc_Lapi_Link_api_Link_ok {sa0 : List GLink} {f : GLink → Option Bool} {f_g : Nat} {f_c : List AV} (f_k : CallOk Tryz.prog f_g) (f_f : ∀ (y0 : GLink) (q : Bool), f y0 = some q → RO Tryz.prog f_g [] ([.agg [.int .i64 y0.A, .int .i64 y0.B, .int .i64 y0.CostA, .int .i64 y0.CostB, .int .i64 y0.Capacity]] ++ f_c) (.bool q)) {r : Int} (hm : m_slices_IndexFunc_Lapi_Link_api_Link sa0 f = some r) : RO Tryz.prog 121 [] [.lst false (ml eGLink sa0), .cfn f_g f_c] (.int .i64 r) := by
  refine enterA Tryz.func121 rfl rfl ?_
  unfold m_slices_IndexFunc_Lapi_Link_api_Link at hm
  refine A.RS W0 [] [] [(0, .lst false (ml eGLink sa0)), (1, .cfn f_g f_c)] [] (by kernel_rfl) ?_
  refine A.seq ?_
  refine A.RS W0 [] [(1, hto (lnE eGLink sa0))] [(0, .lst false (ml eGLink sa0)), (1, .cfn f_g f_c), (7, .int .i64 (sa0.length:Int)), (8, .int .i64 (0:Int))] [] (by kernel_rfl) ?_
  refine A.block ?_
  refine A.bS 0 rfl fun hb1 => ?_
  obtain ⟨B1, K1, hB1, hK1, hm⟩ := forI_some hm
  refine A.lpI (l := sa0) (j0 := 0) (B := B1) (K := K1) hm (fun j1 => fun sg => match sg with | () => [(0, .lst false (ml eGLink sa0)), (1, .cfn f_g f_c), (7, .int .i64 (sa0.length:Int)), (8, .int .i64 (j1 : Int))]) (fun j1 => fun sg => match sg with | () => []) ?_ ?_ ?_
  · exact Weak.go [] [] (by kernel_rfl)
  · skip
    rintro j1 e1 Z1 ⟨⟩ hj1 hx1 hm
    rw [hB1] at hm
    refine A.RS W0 [] [] [(0, .lst false (ml eGLink sa0)), (1, .cfn f_g f_c), (7, .int .i64 (sa0.length:Int)), (8, .int .i64 (j1 : Int)), (9, .bool (decide ((j1 : Int) < (sa0.length:Int))))] [] (by kernel_rfl) ?_
    refine A.seq ?_
    refine A.cT rfl (ltT hx1) ?_
    refine A.skip ?_
    show acode _ _ _ _ _
    refine A.seq ?_
    refine A.block ?_
    refine A.RS W0 [] [] [(0, .lst false (ml eGLink sa0)), (1, .cfn f_g f_c), (7, .int .i64 (sa0.length:Int)), (8, .int .i64 (j1 : Int)), (5, .int .i64 (j1 : Int))] [] (by kernel_rfl) ?_
    obtain ⟨vx_1, h1, hm⟩ := bnd_some hm
    refine A.RS W0 [] [(3, hix (ix eGLink (elO_nat hx1))), (5, hrf (f_f _ _ h1) f_k)] [(0, .lst false (ml eGLink sa0)), (1, .cfn f_g f_c), (7, .int .i64 (sa0.length:Int)), (8, .int .i64 (j1 : Int)), (5, .int .i64 (j1 : Int)), (16, .bool vx_1)] [] (by kernel_rfl) ?_
    rcases cs_some hm with ⟨c1, hm⟩ | ⟨c1, hm⟩
    · skip
      refine A.cT rfl c1 ?_
      refine A.RS W0 [] [] [(4, .int .i64 (j1 : Int))] [] (by kernel_rfl) ?_
      refine A.ret ?_
      obtain rfl := some_inj hm
      exact A.fin W0 [] rfl (by kernel_rfl)
    refine A.cF rfl c1 ?_
    refine A.skip ?_
    show acode _ _ _ _ _
    refine A.R W0 [] [(0, hto (inc hx1 hb1))] [(0, .lst false (ml eGLink sa0)), (1, .cfn f_g f_c), (7, .int .i64 (sa0.length:Int)), (8, .int .i64 ((j1 + 1 : Nat) : Int))] [] (by kernel_rfl) ?_
    exact Exists.intro () (And.intro hm (Weak.go [] [] (by kernel_rfl)))
  rintro j1 ⟨⟩ hj1 hl1 hm
  rw [hK1] at hm
  refine A.RS W0 [] [] [(0, .lst false (ml eGLink sa0)), (1, .cfn f_g f_c), (7, .int .i64 (sa0.length:Int)), (8, .int .i64 (j1 : Int)), (9, .bool (decide ((j1 : Int) < (sa0.length:Int))))] [] (by kernel_rfl) ?_
  refine A.seq ?_
  refine A.cF rfl (ltF hl1) ?_
  refine A.exit ?_
  show acode _ _ _ _ _
  refine A.RS W0 [] [] [(4, .int .i64 (-1:Int))] [] (by kernel_rfl) ?_
  refine A.ret ?_
  obtain rfl := some_inj hm
  exact A.fin W0 [] rfl (by kernel_rfl)
theorem m_slices_ContainsFunc_Lapi_Advert_api_Advert_ok {sa0 : List GAdvert} {f : GAdvert → Option Bool} {f_g : Nat} {f_c : List AV} (f_k : CallOk Tryz.prog f_g) (f_f : ∀ (y0 : GAdvert) (q : Bool), f y0 = some q → RO Tryz.prog f_g [] ([.agg [.int .i64 y0.Router, .int .i64 y0.Seq, .bool y0.Capable, .lst false (ml eGReach y0.Links), .lst false (ml eGClaim y0.Claims)]] ++ f_c) (.bool q)) {r : Bool} (hm : m_slices_ContainsFunc_Lapi_Advert_api_Advert sa0 f = some r) : RO Tryz.prog 62 [] [.lst false (ml eGAdvert sa0), .cfn f_g f_c] (.bool r) := by
  refine enterA Tryz.func62 rfl rfl ?_
  unfold m_slices_ContainsFunc_Lapi_Advert_api_Advert at hm
  refine A.RS W0 [] [] [(0, .lst false (ml eGAdvert sa0)), (1, .cfn f_g f_c)] [] (by kernel_rfl) ?_
  obtain ⟨vx_1, h1, hm⟩ := bnd_some hm
  refine A.RS W0 [] [(2, hro (m_slices_IndexFunc_Lapi_Advert_api_Advert_ok (f_k := f_k) (f_f := f_f) h1) ck96)] [(4, .bool (decide ((0:Int) ≤ vx_1)))] [] (by kernel_rfl) ?_
  refine A.ret ?_
  obtain rfl := some_inj hm
  exact A.fin W0 [] rfl (by kernel_rfl)
theorem m_slices_ContainsFunc_Lapi_Router_api_Router_ok {sa0 : List GRouter} {f : GRouter → Option Bool} {f_g : Nat} {f_c : List AV} (f_k : CallOk Tryz.prog f_g) (f_f : ∀ (y0 : GRouter) (q : Bool), f y0 = some q → RO Tryz.prog f_g [] ([.agg [.int .i64 y0.ID, .bool y0.Capable]] ++ f_c) (.bool q)) {r : Bool} (hm : m_slices_ContainsFunc_Lapi_Router_api_Router sa0 f = some r) : RO Tryz.prog 79 [] [.lst false (ml eGRouter sa0), .cfn f_g f_c] (.bool r) := by
  refine enterA Tryz.func79 rfl rfl ?_
  unfold m_slices_ContainsFunc_Lapi_Router_api_Router at hm
  refine A.RS W0 [] [] [(0, .lst false (ml eGRouter sa0)), (1, .cfn f_g f_c)] [] (by kernel_rfl) ?_
  obtain ⟨vx_1, h1, hm⟩ := bnd_some hm
  refine A.RS W0 [] [(2, hro (m_slices_IndexFunc_Lapi_Router_api_Router_ok (f_k := f_k) (f_f := f_f) h1) ck120)] [(4, .bool (decide ((0:Int) ≤ vx_1)))] [] (by kernel_rfl) ?_
  refine A.ret ?_
  obtain rfl := some_inj hm
  exact A.fin W0 [] rfl (by kernel_rfl)
theorem m_slices_ContainsFunc_Lapi_Link_api_Link_ok {sa0 : List GLink} {f : GLink → Option Bool} {f_g : Nat} {f_c : List AV} (f_k : CallOk Tryz.prog f_g) (f_f : ∀ (y0 : GLink) (q : Bool), f y0 = some q → RO Tryz.prog f_g [] ([.agg [.int .i64 y0.A, .int .i64 y0.B, .int .i64 y0.CostA, .int .i64 y0.CostB, .int .i64 y0.Capacity]] ++ f_c) (.bool q)) {r : Bool} (hm : m_slices_ContainsFunc_Lapi_Link_api_Link sa0 f = some r) : RO Tryz.prog 85 [] [.lst false (ml eGLink sa0), .cfn f_g f_c] (.bool r) := by
  refine enterA Tryz.func85 rfl rfl ?_
  unfold m_slices_ContainsFunc_Lapi_Link_api_Link at hm
  refine A.RS W0 [] [] [(0, .lst false (ml eGLink sa0)), (1, .cfn f_g f_c)] [] (by kernel_rfl) ?_
  obtain ⟨vx_1, h1, hm⟩ := bnd_some hm
  refine A.RS W0 [] [(2, hro (m_slices_IndexFunc_Lapi_Link_api_Link_ok (f_k := f_k) (f_f := f_f) h1) ck121)] [(4, .bool (decide ((0:Int) ≤ vx_1)))] [] (by kernel_rfl) ?_
  refine A.ret ?_
  obtain rfl := some_inj hm
  exact A.fin W0 [] rfl (by kernel_rfl)
theorem m_topology_in_ok {n : Int} {least : Int} {most : Int} {r : Bool} (hm : m_topology_in n least most = some r) : RO Tryz.prog 81 [] [.int .i64 n, .int .i64 least, .int .i64 most] (.bool r) := by
  refine enterA Tryz.func81 rfl rfl ?_
  unfold m_topology_in at hm
  refine A.RS W0 [] [] [(0, .int .i64 n), (1, .int .i64 least), (2, .int .i64 most)] [] (by kernel_rfl) ?_
  refine A.mid [(6, .bool ((decide (least ≤ n)) && (decide (n ≤ most))))] [] (fun hk => ?_) ?_
  · skip
    rcases tf (decide (least ≤ n)) with c1 | c1
    · skip
      exact A.RS W0 [] [(3, hto (bE c1)), (8, hto (andT (q := decide (n ≤ most)) c1))] _ _ (by kernel_rfl) hk
    exact A.RS W0 [] [(3, hto (bE c1)), (8, hto (andF (q := decide (n ≤ most)) c1))] _ _ (by kernel_rfl) hk
  refine A.ret ?_
  obtain rfl := some_inj hm
  exact A.fin W0 [] rfl (by kernel_rfl)
theorem m_topology_compare_ok {a : GLink} {b : GLink} {r : Int} (hm : m_topology_compare a b = some r) : RO Tryz.prog 89 [] [.agg [.int .i64 a.A, .int .i64 a.B, .int .i64 a.CostA, .int .i64 a.CostB, .int .i64 a.Capacity], .agg [.int .i64 b.A, .int .i64 b.B, .int .i64 b.CostA, .int .i64 b.CostB, .int .i64 b.Capacity]] (.int .i64 r) := by
  refine enterA Tryz.func89 rfl rfl ?_
  unfold m_topology_compare at hm
  refine A.RS W0 [] [(0, .al 89002), (1, .al 89003)] [(2, .ptr 89002 0), (3, .ptr 89003 0)] [(89002, .cells 84 [.int .i64 a.A, .int .i64 a.B, .int .i64 a.CostA, .int .i64 a.CostB, .int .i64 a.Capacity]), (89003, .cells 84 [.int .i64 b.A, .int .i64 b.B, .int .i64 b.CostA, .int .i64 b.CostB, .int .i64 b.Capacity])] (by kernel_rfl) ?_
  obtain ⟨vx_1, h1, hm⟩ := bnd_some hm
  obtain ⟨vx_2, h2, hm⟩ := bnd_some hm
  obtain ⟨vx_3, h3, hm⟩ := bnd_some hm
  refine A.RS W0 [] [(4, hro (m_cmp_Compare_int_ok h1) ck54), (9, hro (m_cmp_Compare_int_ok h2) ck54), (11, hro (m_cmp_Or_int_ok h3) ck57)] [(4, .int .i64 vx_3)] [] (by kernel_rfl) ?_
  refine A.ret ?_
  obtain rfl := some_inj hm
  exact A.fin W0 [] rfl (by kernel_rfl)
theorem m_topology_byID_ok {ra0 : GRouter} {id : Int} {r : Int} (hm : m_topology_byID ra0 id = some r) : RO Tryz.prog 84 [] [.agg [.int .i64 ra0.ID, .bool ra0.Capable], .int .i64 id] (.int .i64 r) := by
  refine enterA Tryz.func84 rfl rfl ?_
  unfold m_topology_byID at hm
  refine A.RS W0 [] [(0, .al 84002)] [(1, .int .i64 id), (2, .ptr 84002 0)] [(84002, .cells 52 [.int .i64 ra0.ID, .bool ra0.Capable])] (by kernel_rfl) ?_
  obtain ⟨vx_1, h1, hm⟩ := bnd_some hm
  refine A.RS W0 [] [(3, hro (m_cmp_Compare_int_ok h1) ck54)] [(4, .int .i64 vx_1)] [] (by kernel_rfl) ?_
  refine A.ret ?_
  obtain rfl := some_inj hm
  exact A.fin W0 [] rfl (by kernel_rfl)
theorem m_topology_Check_1_ok {ra0 : GRouter} {r : Bool} (hm : m_topology_Check_1 ra0 = some r) : RO Tryz.prog 80 [] [.agg [.int .i64 ra0.ID, .bool ra0.Capable]] (.bool r) := by
  refine enterA Tryz.func80 rfl rfl ?_
  unfold m_topology_Check_1 at hm
  refine A.RS W0 [] [(0, .al 80001)] [(1, .ptr 80001 0)] [(80001, .cells 52 [.int .i64 ra0.ID, .bool ra0.Capable])] (by kernel_rfl) ?_
  obtain ⟨vx_1, h1, hm⟩ := bnd_some hm
  refine A.RS W0 [] [(2, hro (m_topology_in_ok h1) ck81)] [(2, .bool (!vx_1))] [] (by kernel_rfl) ?_
  refine A.ret ?_
  obtain rfl := some_inj hm
  exact A.fin W0 [] rfl (by kernel_rfl)
theorem m_topology_Check_3_ok {l : GLink} {r : Bool} (hm : m_topology_Check_3 l = some r) : RO Tryz.prog 86 [] [.agg [.int .i64 l.A, .int .i64 l.B, .int .i64 l.CostA, .int .i64 l.CostB, .int .i64 l.Capacity]] (.bool r) := by
  refine enterA Tryz.func86 rfl rfl ?_
  unfold m_topology_Check_3 at hm
  refine A.RS W0 [] [(0, .al 86001)] [(1, .ptr 86001 0)] [(86001, .cells 84 [.int .i64 l.A, .int .i64 l.B, .int .i64 l.CostA, .int .i64 l.CostB, .int .i64 l.Capacity])] (by kernel_rfl) ?_
  obtain ⟨vx_1, h1, hm⟩ := bnd_some hm
  rcases cs_some hm with ⟨c1, hm⟩ | ⟨c1, hm⟩
  · skip
    refine A.RS W0 [] [(2, hro (m_topology_in_ok h1) ck81), (4, hto (bE c1))] [(2, .bool true)] [] (by kernel_rfl) ?_
    refine A.ret ?_
    obtain rfl := some_inj hm
    exact A.fin W0 [] rfl (by kernel_rfl)
  obtain ⟨vx_2, h2, hm⟩ := bnd_some hm
  rcases cs_some hm with ⟨c2, hm⟩ | ⟨c2, hm⟩
  · skip
    refine A.RS W0 [] [(2, hro (m_topology_in_ok h1) ck81), (4, hto (bE c1)), (7, hro (m_topology_in_ok h2) ck81), (10, hto (bE c2))] [(2, .bool true)] [] (by kernel_rfl) ?_
    refine A.ret ?_
    obtain rfl := some_inj hm
    exact A.fin W0 [] rfl (by kernel_rfl)
  obtain ⟨vx_3, h3, hm⟩ := bnd_some hm
  refine A.RS W0 [] [(2, hro (m_topology_in_ok h1) ck81), (4, hto (bE c1)), (7, hro (m_topology_in_ok h2) ck81), (10, hto (bE c2)), (13, hro (m_topology_in_ok h3) ck81)] [(2, .bool (!vx_3))] [] (by kernel_rfl) ?_
  refine A.ret ?_
  obtain rfl := some_inj hm
  exact A.fin W0 [] rfl (by kernel_rfl)
theorem m_topology_Check_2_ok {id : Int} {c_0 : GTopology} {r : Bool} (hm : m_topology_Check_2 id c_0 = some r) : RO Tryz.prog 82 [] [.int .i64 id, .lptr [.lst false (ml eGRouter c_0.Routers), .lst false (ml eGLink c_0.Links)]] (.bool r) := by
  refine enterA Tryz.func82 rfl rfl ?_
  unfold m_topology_Check_2 at hm
  refine A.RS W0 [] [] [(0, .int .i64 id), (1, .lptr [.lst false (ml eGRouter c_0.Routers), .lst false (ml eGLink c_0.Links)])] [] (by kernel_rfl) ?_
  obtain ⟨vx_1, h1, hm⟩ := bnd_some hm
  refine A.RS W0 [] [(3, hro (m_slices_BinarySearchFunc_Lapi_Router_api_Router_int_ok (cmp_g := 84) (cmp_c := []) (cmp_k := ck84) (cmp_f := fun _ _ _ h => m_topology_byID_ok h) h1) ck83)] [(5, .bool vx_1.2)] [] (by kernel_rfl) ?_
  refine A.RS W0 [] [] [(3, .bool (!vx_1.2))] [] (by kernel_rfl) ?_
  refine A.ret ?_
  obtain rfl := some_inj hm
  exact A.fin W0 [] rfl (by kernel_rfl)
theorem m_topology_Check_4_ok {l : GLink} {c_0 : GTopology} {r : Bool} (hm : m_topology_Check_4 l c_0 = some r) : RO Tryz.prog 87 [] [.agg [.int .i64 l.A, .int .i64 l.B, .int .i64 l.CostA, .int .i64 l.CostB, .int .i64 l.Capacity], .lptr [.fn 82 [.lptr [.lst false (ml eGRouter c_0.Routers), .lst false (ml eGLink c_0.Links)]]]] (.bool r) := by
  refine enterA Tryz.func87 rfl rfl ?_
  unfold m_topology_Check_4 at hm
  refine A.RS W0 [] [(0, .al 87002)] [(1, .lptr [.fn 82 [.lptr [.lst false (ml eGRouter c_0.Routers), .lst false (ml eGLink c_0.Links)]]]), (2, .ptr 87002 0)] [(87002, .cells 84 [.int .i64 l.A, .int .i64 l.B, .int .i64 l.CostA, .int .i64 l.CostB, .int .i64 l.Capacity])] (by kernel_rfl) ?_
  obtain ⟨vx_1, h1, hm⟩ := bnd_some hm
  rcases cs_some hm with ⟨c1, hm⟩ | ⟨c1, hm⟩
  · skip
    refine A.RS W0 [] [(3, hle [] (m_topology_Check_2_ok h1) ck82), (4, hto (bE c1))] [(3, .bool true)] [] (by kernel_rfl) ?_
    refine A.ret ?_
    obtain rfl := some_inj hm
    exact A.fin W0 [] rfl (by kernel_rfl)
  obtain ⟨vx_2, h2, hm⟩ := bnd_some hm
  refine A.RS W0 [] [(3, hle [] (m_topology_Check_2_ok h1) ck82), (4, hto (bE c1)), (8, hle [] (m_topology_Check_2_ok h2) ck82)] [(3, .bool vx_2)] [] (by kernel_rfl) ?_
  refine A.ret ?_
  obtain rfl := some_inj hm
  exact A.fin W0 [] rfl (by kernel_rfl)
theorem m_topology_Check_5_ok {l : GLink} {r : Bool} (hm : m_topology_Check_5 l = some r) : RO Tryz.prog 88 [] [.agg [.int .i64 l.A, .int .i64 l.B, .int .i64 l.CostA, .int .i64 l.CostB, .int .i64 l.Capacity]] (.bool r) := by
  refine enterA Tryz.func88 rfl rfl ?_
  unfold m_topology_Check_5 at hm
  refine A.RS W0 [] [(0, .al 88001)] [(1, .ptr 88001 0)] [(88001, .cells 84 [.int .i64 l.A, .int .i64 l.B, .int .i64 l.CostA, .int .i64 l.CostB, .int .i64 l.Capacity])] (by kernel_rfl) ?_
  refine A.RS W0 [] [] [(2, .bool (decide (l.B ≤ l.A)))] [] (by kernel_rfl) ?_
  refine A.ret ?_
  obtain rfl := some_inj hm
  exact A.fin W0 [] rfl (by kernel_rfl)
theorem m_topology_Check_ok {t : GTopology} {r : Int} (hm : m_topology_Check t = some r) : RO Tryz.prog 58 [] [.agg [.lst false (ml eGRouter t.Routers), .lst false (ml eGLink t.Links)]] (.int .i64 r) := by
  refine enterA Tryz.func58 rfl rfl ?_
  unfold m_topology_Check at hm
  refine A.RS W0 [] [(0, .al 58001)] [(1, .ptr 58001 0)] [(58001, .cells 46 [.lst false (ml eGRouter t.Routers), .lst false (ml eGLink t.Links)])] (by kernel_rfl) ?_
  refine A.seq ?_
  refine A.block ?_
  refine A.mid [(1, .ptr 58001 0), (6, .bool ((decide ((24:Int) < (t.Routers.length:Int))) || (decide ((60:Int) < (t.Links.length:Int)))))] [(58001, .cells 46 [.lst false (ml eGRouter t.Routers), .lst false (ml eGLink t.Links)])] (fun hk => ?_) ?_
  · skip
    rcases tf (decide ((24:Int) < (t.Routers.length:Int))) with c1 | c1
    · skip
      exact A.RS W0 [] [(2, hto (lnE eGRouter t.Routers)), (4, hto (bE c1)), (10, hto (orT (q := decide ((60:Int) < (t.Links.length:Int))) c1))] _ _ (by kernel_rfl) hk
    exact A.RS W0 [] [(2, hto (lnE eGRouter t.Routers)), (4, hto (bE c1)), (7, hto (lnE eGLink t.Links)), (10, hto (orF (q := decide ((60:Int) < (t.Links.length:Int))) c1))] _ _ (by kernel_rfl) hk
  rcases cs_some hm with ⟨c2, hm⟩ | ⟨c2, hm⟩
  · skip
    refine A.cT rfl c2 ?_
    refine A.RS W0 [] [] [(2, .int .i64 (3:Int))] [] (by kernel_rfl) ?_
    refine A.ret ?_
    obtain rfl := some_inj hm
    exact A.fin W0 [] rfl (by kernel_rfl)
  refine A.cF rfl c2 ?_
  obtain ⟨vx_1, h1, hm⟩ := bnd_some hm
  refine A.RS W0 [] [(2, hro (m_slices_ContainsFunc_Lapi_Router_api_Router_ok (f_g := 80) (f_c := []) (f_k := ck80) (f_f := fun _ _ h => m_topology_Check_1_ok h) h1) ck79)] [(1, .ptr 58001 0), (17, .bool vx_1)] [(58001, .cells 46 [.lst false (ml eGRouter t.Routers), .lst false (ml eGLink t.Links)])] (by kernel_rfl) ?_
  rcases cs_some hm with ⟨c3, hm⟩ | ⟨c3, hm⟩
  · skip
    refine A.cT rfl c3 ?_
    refine A.RS W0 [] [] [(2, .int .i64 (2:Int))] [] (by kernel_rfl) ?_
    refine A.ret ?_
    obtain rfl := some_inj hm
    exact A.fin W0 [] rfl (by kernel_rfl)
  refine A.cF rfl c3 ?_
  refine A.skip ?_
  show acode _ _ _ _ _
  refine A.seq ?_
  refine A.RS W0 [] [(2, hto (lnE eGRouter t.Routers))] [(1, .ptr 58001 0), (23, .int .i64 (t.Routers.length:Int)), (24, .int .i64 (0:Int))] [(58001, .cells 46 [.lst false (ml eGRouter t.Routers), .lst false (ml eGLink t.Links)])] (by kernel_rfl) ?_
  refine A.block ?_
  refine A.bC 1 0 rfl rfl rfl fun hb1 => ?_
  obtain ⟨B1, K1, hB1, hK1, hm⟩ := forI_some hm
  refine A.lpI (l := t.Routers) (j0 := 0) (B := B1) (K := K1) hm (fun j1 => fun sg => match sg with | () => [(1, .ptr 58001 0), (23, .int .i64 (t.Routers.length:Int)), (24, .int .i64 (j1 : Int))]) (fun j1 => fun sg => match sg with | () => [(58001, .cells 46 [.lst false (ml eGRouter t.Routers), .lst false (ml eGLink t.Links)])]) ?_ ?_ ?_
  · exact Weak.go [] [] (by kernel_rfl)
  · skip
    rintro j1 e1 Z1 ⟨⟩ hj1 hx1 hm
    rw [hB1] at hm
    refine A.RS W0 [] [] [(1, .ptr 58001 0), (23, .int .i64 (t.Routers.length:Int)), (24, .int .i64 (j1 : Int)), (25, .bool (decide ((j1 : Int) < (t.Routers.length:Int))))] [(58001, .cells 46 [.lst false (ml eGRouter t.Routers), .lst false (ml eGLink t.Links)])] (by kernel_rfl) ?_
    refine A.seq ?_
    refine A.cT rfl (ltT hx1) ?_
    refine A.skip ?_
    show acode _ _ _ _ _
    refine A.seq ?_
    refine A.block ?_
    refine A.RS W0 [] [] [(1, .ptr 58001 0), (23, .int .i64 (t.Routers.length:Int)), (24, .int .i64 (j1 : Int)), (3, .int .i64 (j1 : Int))] [(58001, .cells 46 [.lst false (ml eGRouter t.Routers), .lst false (ml eGLink t.Links)])] (by kernel_rfl) ?_
    obtain ⟨J1, hJ1, hm⟩ := jn_some hm
    refine A.J (J := J1) (r := r) (fun v_1 => [(1, .ptr 58001 0), (23, .int .i64 (t.Routers.length:Int)), (24, .int .i64 (j1 : Int)), (44, .bool v_1)]) (fun v_1 => [(58001, .cells 46 [.lst false (ml eGRouter t.Routers), .lst false (ml eGLink t.Links)])]) ?_ ?_
    · skip
      rcases cs_some hm with ⟨c4, hm⟩ | ⟨c4, hm⟩
      · skip
        obtain ⟨e_1, h2, hm⟩ := bnd_some hm
        refine A.R W0 [] [(2, hto (bE c4)), (7, hix (ix eGRouter h2)), (13, hix (ix eGRouter (elO_nat hx1)))] [(1, .ptr 58001 0), (23, .int .i64 (t.Routers.length:Int)), (24, .int .i64 (j1 : Int)), (44, .bool (decide (e1.ID ≤ e_1.ID)))] [(58001, .cells 46 [.lst false (ml eGRouter t.Routers), .lst false (ml eGLink t.Links)])] (by kernel_rfl) ?_
        exact Exists.intro (decide (e1.ID ≤ e_1.ID)) (And.intro hm (Weak.go [] [] (by kernel_rfl)))
      refine A.R W0 [] [(2, hto (bE c4))] [(1, .ptr 58001 0), (23, .int .i64 (t.Routers.length:Int)), (24, .int .i64 (j1 : Int)), (44, .bool false)] [(58001, .cells 46 [.lst false (ml eGRouter t.Routers), .lst false (ml eGLink t.Links)])] (by kernel_rfl) ?_
      exact Exists.intro false (And.intro hm (Weak.go [] [] (by kernel_rfl)))
    rintro v_1 hm
    rw [hJ1] at hm
    rcases cs_some hm with ⟨c5, hm⟩ | ⟨c5, hm⟩
    · skip
      refine A.cT rfl c5 ?_
      refine A.RS W0 [] [] [(2, .int .i64 (25:Int))] [] (by kernel_rfl) ?_
      refine A.ret ?_
      obtain rfl := some_inj hm
      exact A.fin W0 [] rfl (by kernel_rfl)
    refine A.cF rfl c5 ?_
    refine A.skip ?_
    show acode _ _ _ _ _
    refine A.R W0 [] [(0, hto (inc hx1 hb1))] [(1, .ptr 58001 0), (23, .int .i64 (t.Routers.length:Int)), (24, .int .i64 ((j1 + 1 : Nat) : Int))] [(58001, .cells 46 [.lst false (ml eGRouter t.Routers), .lst false (ml eGLink t.Links)])] (by kernel_rfl) ?_
    exact Exists.intro () (And.intro hm (Weak.go [] [] (by kernel_rfl)))
  rintro j1 ⟨⟩ hj1 hl1 hm
  rw [hK1] at hm
  refine A.RS W0 [] [] [(1, .ptr 58001 0), (23, .int .i64 (t.Routers.length:Int)), (24, .int .i64 (j1 : Int)), (25, .bool (decide ((j1 : Int) < (t.Routers.length:Int))))] [(58001, .cells 46 [.lst false (ml eGRouter t.Routers), .lst false (ml eGLink t.Links)])] (by kernel_rfl) ?_
  refine A.seq ?_
  refine A.cF rfl (ltF hl1) ?_
  refine A.exit ?_
  show acode _ _ _ _ _
  refine A.RS W0 [] [(1, .al 58004)] [(1, .ptr 58001 0), (4, .ptr 58004 0)] [(58001, .cells 46 [.lst false (ml eGRouter t.Routers), .lst false (ml eGLink t.Links)]), (58004, .cells 35 [.fn 82 [.ptr 58001 0]])] (by kernel_rfl) ?_
  refine A.seq ?_
  refine A.block ?_
  obtain ⟨vx_2, h3, hm⟩ := bnd_some hm
  refine A.RS W0 [] [(2, hro (m_slices_ContainsFunc_Lapi_Link_api_Link_ok (f_g := 86) (f_c := []) (f_k := ck86) (f_f := fun _ _ h => m_topology_Check_3_ok h) h3) ck85)] [(1, .ptr 58001 0), (4, .ptr 58004 0), (47, .bool vx_2)] [(58001, .cells 46 [.lst false (ml eGRouter t.Routers), .lst false (ml eGLink t.Links)]), (58004, .cells 35 [.fn 82 [.ptr 58001 0]])] (by kernel_rfl) ?_
  rcases cs_some hm with ⟨c6, hm⟩ | ⟨c6, hm⟩
  · skip
    refine A.cT rfl c6 ?_
    refine A.RS W0 [] [] [(2, .int .i64 (2:Int))] [] (by kernel_rfl) ?_
    refine A.ret ?_
    obtain rfl := some_inj hm
    exact A.fin W0 [] rfl (by kernel_rfl)
  refine A.cF rfl c6 ?_
  obtain ⟨vx_3, h4, hm⟩ := bnd_some hm
  refine A.RS W0 [] [(3, hle [58004, 58001] (m_slices_ContainsFunc_Lapi_Link_api_Link_ok (f_g := 87) (f_c := [.lptr [.fn 82 [.lptr [.lst false (ml eGRouter t.Routers), .lst false (ml eGLink t.Links)]]]]) (f_k := ck87) (f_f := fun _ _ h => m_topology_Check_4_ok h) h4) ck85)] [(1, .ptr 58001 0), (51, .bool vx_3)] [(58001, .cells 46 [.lst false (ml eGRouter t.Routers), .lst false (ml eGLink t.Links)])] (by kernel_rfl) ?_
  rcases cs_some hm with ⟨c7, hm⟩ | ⟨c7, hm⟩
  · skip
    refine A.cT rfl c7 ?_
    refine A.RS W0 [] [] [(2, .int .i64 (4:Int))] [] (by kernel_rfl) ?_
    refine A.ret ?_
    obtain rfl := some_inj hm
    exact A.fin W0 [] rfl (by kernel_rfl)
  refine A.cF rfl c7 ?_
  obtain ⟨vx_4, h5, hm⟩ := bnd_some hm
  refine A.RS W0 [] [(2, hro (m_slices_ContainsFunc_Lapi_Link_api_Link_ok (f_g := 88) (f_c := []) (f_k := ck88) (f_f := fun _ _ h => m_topology_Check_5_ok h) h5) ck85)] [(1, .ptr 58001 0), (56, .bool vx_4)] [(58001, .cells 46 [.lst false (ml eGRouter t.Routers), .lst false (ml eGLink t.Links)])] (by kernel_rfl) ?_
  rcases cs_some hm with ⟨c8, hm⟩ | ⟨c8, hm⟩
  · skip
    refine A.cT rfl c8 ?_
    refine A.RS W0 [] [] [(2, .int .i64 (8:Int))] [] (by kernel_rfl) ?_
    refine A.ret ?_
    obtain rfl := some_inj hm
    exact A.fin W0 [] rfl (by kernel_rfl)
  refine A.cF rfl c8 ?_
  refine A.skip ?_
  show acode _ _ _ _ _
  refine A.seq ?_
  refine A.RS W0 [] [(2, hto (lnE eGLink t.Links))] [(1, .ptr 58001 0), (62, .int .i64 (t.Links.length:Int)), (63, .int .i64 (0:Int))] [(58001, .cells 46 [.lst false (ml eGRouter t.Routers), .lst false (ml eGLink t.Links)])] (by kernel_rfl) ?_
  refine A.block ?_
  refine A.bC 1 1 rfl rfl rfl fun hb2 => ?_
  obtain ⟨B2, K2, hB2, hK2, hm⟩ := forI_some hm
  refine A.lpI (l := t.Links) (j0 := 0) (B := B2) (K := K2) hm (fun j2 => fun sg => match sg with | () => [(1, .ptr 58001 0), (62, .int .i64 (t.Links.length:Int)), (63, .int .i64 (j2 : Int))]) (fun j2 => fun sg => match sg with | () => [(58001, .cells 46 [.lst false (ml eGRouter t.Routers), .lst false (ml eGLink t.Links)])]) ?_ ?_ ?_
  · exact Weak.go [] [] (by kernel_rfl)
  · skip
    rintro j2 e2 Z2 ⟨⟩ hj2 hx2 hm
    rw [hB2] at hm
    refine A.RS W0 [] [] [(1, .ptr 58001 0), (62, .int .i64 (t.Links.length:Int)), (63, .int .i64 (j2 : Int)), (64, .bool (decide ((j2 : Int) < (t.Links.length:Int))))] [(58001, .cells 46 [.lst false (ml eGRouter t.Routers), .lst false (ml eGLink t.Links)])] (by kernel_rfl) ?_
    refine A.seq ?_
    refine A.cT rfl (ltT hx2) ?_
    refine A.skip ?_
    show acode _ _ _ _ _
    refine A.seq ?_
    refine A.block ?_
    refine A.RS W0 [] [] [(1, .ptr 58001 0), (62, .int .i64 (t.Links.length:Int)), (63, .int .i64 (j2 : Int)), (5, .int .i64 (j2 : Int))] [(58001, .cells 46 [.lst false (ml eGRouter t.Routers), .lst false (ml eGLink t.Links)])] (by kernel_rfl) ?_
    obtain ⟨J2, hJ2, hm⟩ := jn_some hm
    refine A.J (J := J2) (r := r) (fun v_2 => [(1, .ptr 58001 0), (62, .int .i64 (t.Links.length:Int)), (63, .int .i64 (j2 : Int)), (82, .bool v_2)]) (fun v_2 => [(58001, .cells 46 [.lst false (ml eGRouter t.Routers), .lst false (ml eGLink t.Links)])]) ?_ ?_
    · skip
      rcases cs_some hm with ⟨c9, hm⟩ | ⟨c9, hm⟩
      · skip
        obtain ⟨e_2, h6, hm⟩ := bnd_some hm
        obtain ⟨vx_5, h7, hm⟩ := bnd_some hm
        refine A.R W0 [] [(2, hto (bE c9)), (7, hix (ix eGLink h6)), (12, hix (ix eGLink (elO_nat hx2))), (14, hro (m_topology_compare_ok h7) ck89)] [(1, .ptr 58001 0), (62, .int .i64 (t.Links.length:Int)), (63, .int .i64 (j2 : Int)), (82, .bool (decide ((0:Int) ≤ vx_5)))] [(58001, .cells 46 [.lst false (ml eGRouter t.Routers), .lst false (ml eGLink t.Links)])] (by kernel_rfl) ?_
        exact Exists.intro (decide ((0:Int) ≤ vx_5)) (And.intro hm (Weak.go [] [] (by kernel_rfl)))
      refine A.R W0 [] [(2, hto (bE c9))] [(1, .ptr 58001 0), (62, .int .i64 (t.Links.length:Int)), (63, .int .i64 (j2 : Int)), (82, .bool false)] [(58001, .cells 46 [.lst false (ml eGRouter t.Routers), .lst false (ml eGLink t.Links)])] (by kernel_rfl) ?_
      exact Exists.intro false (And.intro hm (Weak.go [] [] (by kernel_rfl)))
    rintro v_2 hm
    rw [hJ2] at hm
    rcases cs_some hm with ⟨c10, hm⟩ | ⟨c10, hm⟩
    · skip
      refine A.cT rfl c10 ?_
      refine A.RS W0 [] [] [(2, .int .i64 (25:Int))] [] (by kernel_rfl) ?_
      refine A.ret ?_
      obtain rfl := some_inj hm
      exact A.fin W0 [] rfl (by kernel_rfl)
    refine A.cF rfl c10 ?_
    refine A.skip ?_
    show acode _ _ _ _ _
    refine A.R W0 [] [(0, hto (inc hx2 hb2))] [(1, .ptr 58001 0), (62, .int .i64 (t.Links.length:Int)), (63, .int .i64 ((j2 + 1 : Nat) : Int))] [(58001, .cells 46 [.lst false (ml eGRouter t.Routers), .lst false (ml eGLink t.Links)])] (by kernel_rfl) ?_
    exact Exists.intro () (And.intro hm (Weak.go [] [] (by kernel_rfl)))
  rintro j2 ⟨⟩ hj2 hl2 hm
  rw [hK2] at hm
  refine A.RS W0 [] [] [(1, .ptr 58001 0), (62, .int .i64 (t.Links.length:Int)), (63, .int .i64 (j2 : Int)), (64, .bool (decide ((j2 : Int) < (t.Links.length:Int))))] [(58001, .cells 46 [.lst false (ml eGRouter t.Routers), .lst false (ml eGLink t.Links)])] (by kernel_rfl) ?_
  refine A.seq ?_
  refine A.cF rfl (ltF hl2) ?_
  refine A.exit ?_
  show acode _ _ _ _ _
  refine A.RS W0 [] [] [(2, .int .i64 (0:Int))] [] (by kernel_rfl) ?_
  refine A.ret ?_
  obtain rfl := some_inj hm
  exact A.fin W0 [] rfl (by kernel_rfl)
end Go.Proofs.YtmcjffllahcclaaGreat
