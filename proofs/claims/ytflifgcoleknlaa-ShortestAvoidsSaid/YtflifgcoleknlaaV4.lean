/- The walks of functions of the program. No condition but those that stand in each. -/
import Derived.Test.YtflifgcoleknlaaDA
namespace Go.Proofs.Ytflifgcoleknlaa
open Go
set_option maxRecDepth 100000
set_option linter.all false
theorem m_cmp_isNaN_int_ok {xa0 : Int} {r : Bool} (hm : m_cmp_isNaN_int xa0 = some r) : RO Try.prog 87 [] [i6 xa0] (.bool r) := by
 refine enterA Try.func87 rfl rfl ?_
 unfold m_cmp_isNaN_int at hm
 refine qS [] [(0, i6 xa0)] [] ?_
 refine qS [] [(2, .bool (!decide (xa0 = xa0)))] [] ?_
 cases hm
 exact A.ret qE
theorem m_cmp_Compare_int_ok {xa0 : Int} {y : Int} {r : Int} (hm : m_cmp_Compare_int xa0 y = some r) : RO Try.prog 66 [] [i6 xa0, i6 y] (i6 r) := by
 refine enterA Try.func66 rfl rfl ?_
 unfold m_cmp_Compare_int at hm
 refine qS [] [(0, i6 xa0), (1, i6 y)] [] ?_
 obtain ⟨vx_1, h1, hm⟩ := bnd_some hm
 refine qDs [(1, hro (m_cmp_isNaN_int_ok h1) ck87)] [] [(5, .bool vx_1)] ?_
 obtain ⟨vx_2, h2, hm⟩ := bnd_some hm
 refine qDs [(1, hro (m_cmp_isNaN_int_ok h2) ck87)] [] [(6, .bool vx_2)] ?_
 refine A.seq ?_
 refine qDs [] [5] [(11, .bool vx_1)] ?_
 rcases cs_some hm with ⟨c1,hm⟩|⟨c1,hm⟩
 ·refine qT c1 ?_
  refine A.seq ?_
  refine qS [] [(12, .bool vx_2)] [] ?_
  rcases cs_some hm with ⟨c2,hm⟩|⟨c2,hm⟩
  ·refine qT c2 ?_
   refine qS [] [(4, i6 0)] [] ?_
   cases hm
   exact A.ret qE
  refine qF c2 ?_
  refine A.skip ?_
  show acode _ _ _ _ _
  refine qS [] [(4, i6 (-1))] [] ?_
  cases hm
  exact A.ret qE
 refine qF c1 ?_
 refine A.skip ?_
 show acode _ _ _ _ _
 refine A.seq ?_
 refine qDs [] [6, 11] [(13, .bool vx_2)] ?_
 rcases cs_some hm with ⟨c3,hm⟩|⟨c3,hm⟩
 ·refine qT c3 ?_
  refine qS [] [(4, i6 1)] [] ?_
  cases hm
  exact A.ret qE
 refine qF c3 ?_
 refine A.skip ?_
 show acode _ _ _ _ _
 refine A.seq ?_
 refine qDs [] [13] [(16, .bool (decide (xa0 < y)))] ?_
 rcases cs_some hm with ⟨c4,hm⟩|⟨c4,hm⟩
 ·refine qT c4 ?_
  refine qS [] [(4, i6 (-1))] [] ?_
  cases hm
  exact A.ret qE
 refine qF c4 ?_
 refine A.skip ?_
 show acode _ _ _ _ _
 refine A.seq ?_
 refine qS [] [(19, .bool (decide (y < xa0)))] [] ?_
 rcases cs_some hm with ⟨c5,hm⟩|⟨c5,hm⟩
 ·refine qT c5 ?_
  refine qS [] [(4, i6 1)] [] ?_
  cases hm
  exact A.ret qE
 refine qF c5 ?_
 refine A.skip ?_
 show acode _ _ _ _ _
 refine qS [] [(4, i6 0)] [] ?_
 cases hm
 exact A.ret qE
theorem m_cmp_Or_int_ok {vals : List Int} {r : Int} (hm : m_cmp_Or_int vals = some r) : RO Try.prog 88 [] [lf eInt vals] (i6 r) := by
 refine enterA Try.func88 rfl rfl ?_
 unfold m_cmp_Or_int at hm
 refine qS [] [(0, lf eInt vals)] [] ?_
 refine qDs [] [] [(3, i6 0)] ?_
 refine A.seq ?_
 refine qDs [(1, hto (lnE eInt vals))] [0] [(6, lf eInt vals), (7, i6 (vals.length:Int)), (8, i6 0)] ?_
 refine A.block ?_
 refine A.bS 6 rfl fun hb1 => ?_
 obtain ⟨B1, K1, hB1, hK1, hm⟩ := forI_some hm
 refine A.lpI (l := vals) (j0 := 0) (B := B1) (K := K1) hm (fun j1 => fun sg => match sg with | () => [(3, i6 0), (6, lf eInt vals), (7, i6 (vals.length:Int)), (8, i6 (j1 : Int))]) (fun j1 => fun sg => match sg with | () => []) ?_ ?_ ?_
 ·exact qW
 ·rintro j1 e1 Z1 ⟨⟩ hj1 hx1 hm
  rw [hB1] at hm
  refine qDs [] [] [(9, .bool (decide ((j1 : Int) < (vals.length:Int))))] ?_
  refine A.seq ?_
  refine qT (ltT hx1) ?_
  refine A.skip ?_
  show acode _ _ _ _ _
  refine A.seq ?_
  refine A.block ?_
  refine qDs [(0, hix (ix eInt (elO_nat hx1)))] [9] [(5, i6 e1)] ?_
  refine qDs [] [] [(14, .bool (!decide (e1 = (0:Int))))] ?_
  rcases cs_some hm with ⟨c1,hm⟩|⟨c1,hm⟩
  ·refine qT c1 ?_
   refine qS [] [(2, i6 e1)] [] ?_
   cases hm
   exact A.ret qE
  refine qF c1 ?_
  refine A.skip ?_
  show acode _ _ _ _ _
  refine qGs [(0, hto (inc hx1 hb1))] [8, 5, 14] [(8, i6 ((j1 + 1 : Nat) : Int))] ?_
  exact qX () hm
 rintro j1 ⟨⟩ hj1 hl1 hm
 rw [hK1] at hm
 refine qDs [] [] [(9, .bool (decide ((j1 : Int) < (vals.length:Int))))] ?_
 refine A.seq ?_
 refine qF (ltF hl1) ?_
 refine A.exit ?_
 show acode _ _ _ _ _
 refine qS [] [(2, i6 0)] [] ?_
 cases hm
 exact A.ret qE
theorem m_slices_BinarySearchFunc_Lapi_Link_api_Link_api_Link_ok {xa0 : List GLink} {target : GLink} {cmp : GLink → GLink → Option Int} {cmp_g : Nat} {cmp_c : List AV} (cmp_k : CallOk Try.prog cmp_g) (cmp_f : ∀ (y0 : GLink) (y1 : GLink) (q : Int), cmp y0 y1 = some q → RO Try.prog cmp_g [] ([.agg (k1 y0), .agg (k1 y1)] ++ cmp_c) (i6 q)) {r : Int × Bool} (hm : m_slices_BinarySearchFunc_Lapi_Link_api_Link_api_Link xa0 target cmp = some r) : RO Try.prog 71 [] [lf eGLink xa0, .agg (k1 target), .cfn cmp_g cmp_c] (.tup [i6 r.1, .bool r.2]) := by
 refine enterA Try.func71 rfl rfl ?_
 unfold m_slices_BinarySearchFunc_Lapi_Link_api_Link_api_Link at hm
 refine qS [(0, .al 71004)] [(0, lf eGLink xa0), (2, .cfn cmp_g cmp_c), (4, .ptr 71004 0)] [(71004, .cells 42 (k1 target))] ?_
 refine qDs [(1, hto (lnE eGLink xa0))] [] [(8, i6 (xa0.length:Int))] ?_
 refine qDs [] [] [(9, i6 0), (10, i6 (xa0.length:Int))] ?_
 refine A.seq ?_
 refine A.block ?_
 obtain ⟨F1, n1, hF1, hm⟩ := whl_some hm
 refine A.lpW (F := F1) hm (fun sg => match sg with | (i_1, j_1) => [(0, lf eGLink xa0), (2, .cfn cmp_g cmp_c), (4, .ptr 71004 0), (8, i6 (xa0.length:Int)), (9, i6 i_1), (10, i6 j_1)]) (fun sg => match sg with | (i_1, j_1) => [(71004, .cells 42 (k1 target))]) ?_ ?_
 ·exact qW
 rintro Z1 ⟨i_1, j_1⟩ hm
 rw [hF1] at hm
 refine A.seq ?_
 refine qDs [] [] [(17, .bool (decide (i_1 < j_1)))] ?_
 rcases cs_some hm with ⟨c1,hm⟩|⟨c1,hm⟩
 ·refine qT c1 ?_
  refine A.skip ?_
  show acode _ _ _ _ _
  refine A.block ?_
  refine qDs [(4, .sh (1:Int) (by decide))] [17] [(11, i6 (w64 (Int.fdiv (IntKind.wrap .u64 (w64 (i_1 + j_1))) (2 ^ min (1:Int).toNat 64))))] ?_
  obtain ⟨e_1, h1, hm⟩ := bnd_some hm
  obtain ⟨vx_1, h2, hm⟩ := bnd_some hm
  refine qDs [(3, hix (ix eGLink h1)), (6, hrf (cmp_f _ _ _ h2) cmp_k)] [] [(31, .bool (decide (vx_1 < (0:Int))))] ?_
  rcases cs_some hm with ⟨c2,hm⟩|⟨c2,hm⟩
  ·refine qT c2 ?_
   refine qGs [] [9, 11, 31] [(9, i6 (w64 ((w64 (Int.fdiv (IntKind.wrap .u64 (w64 (i_1 + j_1))) (2 ^ min (1:Int).toNat 64))) + (1:Int))))] ?_
   exact qX (w64 ((w64 (Int.fdiv (IntKind.wrap .u64 (w64 (i_1 + j_1))) (2 ^ min (1:Int).toNat 64))) + (1:Int)), j_1) hm
  refine qF c2 ?_
  refine qGs [] [10, 11, 31] [(10, i6 (w64 (Int.fdiv (IntKind.wrap .u64 (w64 (i_1 + j_1))) (2 ^ min (1:Int).toNat 64))))] ?_
  exact qX (i_1, w64 (Int.fdiv (IntKind.wrap .u64 (w64 (i_1 + j_1))) (2 ^ min (1:Int).toNat 64))) hm
 refine qF c1 ?_
 refine A.exit ?_
 show acode _ _ _ _ _
 rcases cs_some hm with ⟨c3,hm⟩|⟨c3,hm⟩
 ·obtain ⟨e_2, h3, hm⟩ := bnd_some hm
  obtain ⟨vx_2, h4, hm⟩ := bnd_some hm
  refine qS [(4, hto (bE c3)), (8, hix (ix eGLink h3)), (11, hrf (cmp_f _ _ _ h4) cmp_k)] [(6, i6 i_1), (7, .bool (decide (vx_2 = (0:Int))))] [] ?_
  cases hm
  exact A.ret qE
 refine qS [(4, hto (bE c3))] [(6, i6 i_1), (7, .bool false)] [] ?_
 cases hm
 exact A.ret qE
theorem m_slices_BinarySearchFunc_Lapi_Router_api_Router_int_ok {xa0 : List GRouter} {target : Int} {cmp : GRouter → Int → Option Int} {cmp_g : Nat} {cmp_c : List AV} (cmp_k : CallOk Try.prog cmp_g) (cmp_f : ∀ (y0 : GRouter) (y1 : Int) (q : Int), cmp y0 y1 = some q → RO Try.prog cmp_g [] ([.agg (k0 y0), i6 y1] ++ cmp_c) (i6 q)) {r : Int × Bool} (hm : m_slices_BinarySearchFunc_Lapi_Router_api_Router_int xa0 target cmp = some r) : RO Try.prog 79 [] [lf eGRouter xa0, i6 target, .cfn cmp_g cmp_c] (.tup [i6 r.1, .bool r.2]) := by
 refine enterA Try.func79 rfl rfl ?_
 unfold m_slices_BinarySearchFunc_Lapi_Router_api_Router_int at hm
 refine qS [] [(0, lf eGRouter xa0), (1, i6 target), (2, .cfn cmp_g cmp_c)] [] ?_
 refine qDs [(1, hto (lnE eGRouter xa0))] [] [(8, i6 (xa0.length:Int))] ?_
 refine qDs [] [] [(9, i6 0), (10, i6 (xa0.length:Int))] ?_
 refine A.seq ?_
 refine A.block ?_
 obtain ⟨F1, n1, hF1, hm⟩ := whl_some hm
 refine A.lpW (F := F1) hm (fun sg => match sg with | (i_1, j_1) => [(0, lf eGRouter xa0), (1, i6 target), (2, .cfn cmp_g cmp_c), (8, i6 (xa0.length:Int)), (9, i6 i_1), (10, i6 j_1)]) (fun sg => match sg with | (i_1, j_1) => []) ?_ ?_
 ·exact qW
 rintro Z1 ⟨i_1, j_1⟩ hm
 rw [hF1] at hm
 refine A.seq ?_
 refine qDs [] [] [(17, .bool (decide (i_1 < j_1)))] ?_
 rcases cs_some hm with ⟨c1,hm⟩|⟨c1,hm⟩
 ·refine qT c1 ?_
  refine A.skip ?_
  show acode _ _ _ _ _
  refine A.block ?_
  refine qDs [(4, .sh (1:Int) (by decide))] [17] [(11, i6 (w64 (Int.fdiv (IntKind.wrap .u64 (w64 (i_1 + j_1))) (2 ^ min (1:Int).toNat 64))))] ?_
  obtain ⟨e_1, h1, hm⟩ := bnd_some hm
  obtain ⟨vx_1, h2, hm⟩ := bnd_some hm
  refine qDs [(3, hix (ix eGRouter h1)), (6, hrf (cmp_f _ _ _ h2) cmp_k)] [] [(31, .bool (decide (vx_1 < (0:Int))))] ?_
  rcases cs_some hm with ⟨c2,hm⟩|⟨c2,hm⟩
  ·refine qT c2 ?_
   refine qGs [] [9, 11, 31] [(9, i6 (w64 ((w64 (Int.fdiv (IntKind.wrap .u64 (w64 (i_1 + j_1))) (2 ^ min (1:Int).toNat 64))) + (1:Int))))] ?_
   exact qX (w64 ((w64 (Int.fdiv (IntKind.wrap .u64 (w64 (i_1 + j_1))) (2 ^ min (1:Int).toNat 64))) + (1:Int)), j_1) hm
  refine qF c2 ?_
  refine qGs [] [10, 11, 31] [(10, i6 (w64 (Int.fdiv (IntKind.wrap .u64 (w64 (i_1 + j_1))) (2 ^ min (1:Int).toNat 64))))] ?_
  exact qX (i_1, w64 (Int.fdiv (IntKind.wrap .u64 (w64 (i_1 + j_1))) (2 ^ min (1:Int).toNat 64))) hm
 refine qF c1 ?_
 refine A.exit ?_
 show acode _ _ _ _ _
 rcases cs_some hm with ⟨c3,hm⟩|⟨c3,hm⟩
 ·obtain ⟨e_2, h3, hm⟩ := bnd_some hm
  obtain ⟨vx_2, h4, hm⟩ := bnd_some hm
  refine qS [(4, hto (bE c3)), (8, hix (ix eGRouter h3)), (11, hrf (cmp_f _ _ _ h4) cmp_k)] [(6, i6 i_1), (7, .bool (decide (vx_2 = (0:Int))))] [] ?_
  cases hm
  exact A.ret qE
 refine qS [(4, hto (bE c3))] [(6, i6 i_1), (7, .bool false)] [] ?_
 cases hm
 exact A.ret qE
theorem m_slices_IndexFunc_Lapi_Router_api_Router_ok {sa0 : List GRouter} {f : GRouter → Option Bool} {f_g : Nat} {f_c : List AV} (f_k : CallOk Try.prog f_g) (f_f : ∀ (y0 : GRouter) (q : Bool), f y0 = some q → RO Try.prog f_g [] ([.agg (k0 y0)] ++ f_c) (.bool q)) {r : Int} (hm : m_slices_IndexFunc_Lapi_Router_api_Router sa0 f = some r) : RO Try.prog 89 [] [lf eGRouter sa0, .cfn f_g f_c] (i6 r) := by
 refine enterA Try.func89 rfl rfl ?_
 unfold m_slices_IndexFunc_Lapi_Router_api_Router at hm
 refine qS [] [(0, lf eGRouter sa0), (1, .cfn f_g f_c)] [] ?_
 refine A.seq ?_
 refine qDs [(1, hto (lnE eGRouter sa0))] [] [(7, i6 (sa0.length:Int)), (8, i6 0)] ?_
 refine A.block ?_
 refine A.bS 0 rfl fun hb1 => ?_
 obtain ⟨B1, K1, hB1, hK1, hm⟩ := forI_some hm
 refine A.lpI (l := sa0) (j0 := 0) (B := B1) (K := K1) hm (fun j1 => fun sg => match sg with | () => [(0, lf eGRouter sa0), (1, .cfn f_g f_c), (7, i6 (sa0.length:Int)), (8, i6 (j1 : Int))]) (fun j1 => fun sg => match sg with | () => []) ?_ ?_ ?_
 ·exact qW
 ·rintro j1 e1 Z1 ⟨⟩ hj1 hx1 hm
  rw [hB1] at hm
  refine qDs [] [] [(9, .bool (decide ((j1 : Int) < (sa0.length:Int))))] ?_
  refine A.seq ?_
  refine qT (ltT hx1) ?_
  refine A.skip ?_
  show acode _ _ _ _ _
  refine A.seq ?_
  refine A.block ?_
  refine qDs [] [9] [(5, i6 (j1 : Int))] ?_
  obtain ⟨vx_1, h1, hm⟩ := bnd_some hm
  refine qDs [(3, hix (ix eGRouter (elO_nat hx1))), (5, hrf (f_f _ _ h1) f_k)] [] [(16, .bool vx_1)] ?_
  rcases cs_some hm with ⟨c1,hm⟩|⟨c1,hm⟩
  ·refine qT c1 ?_
   refine qS [] [(4, i6 (j1 : Int))] [] ?_
   cases hm
   exact A.ret qE
  refine qF c1 ?_
  refine A.skip ?_
  show acode _ _ _ _ _
  refine qGs [(0, hto (inc hx1 hb1))] [8, 5, 16] [(8, i6 ((j1 + 1 : Nat) : Int))] ?_
  exact qX () hm
 rintro j1 ⟨⟩ hj1 hl1 hm
 rw [hK1] at hm
 refine qDs [] [] [(9, .bool (decide ((j1 : Int) < (sa0.length:Int))))] ?_
 refine A.seq ?_
 refine qF (ltF hl1) ?_
 refine A.exit ?_
 show acode _ _ _ _ _
 refine qS [] [(4, i6 (-1))] [] ?_
 cases hm
 exact A.ret qE
theorem m_slices_IndexFunc_Lapi_Link_api_Link_ok {sa0 : List GLink} {f : GLink → Option Bool} {f_g : Nat} {f_c : List AV} (f_k : CallOk Try.prog f_g) (f_f : ∀ (y0 : GLink) (q : Bool), f y0 = some q → RO Try.prog f_g [] ([.agg (k1 y0)] ++ f_c) (.bool q)) {r : Int} (hm : m_slices_IndexFunc_Lapi_Link_api_Link sa0 f = some r) : RO Try.prog 90 [] [lf eGLink sa0, .cfn f_g f_c] (i6 r) := by
 refine enterA Try.func90 rfl rfl ?_
 unfold m_slices_IndexFunc_Lapi_Link_api_Link at hm
 refine qS [] [(0, lf eGLink sa0), (1, .cfn f_g f_c)] [] ?_
 refine A.seq ?_
 refine qDs [(1, hto (lnE eGLink sa0))] [] [(7, i6 (sa0.length:Int)), (8, i6 0)] ?_
 refine A.block ?_
 refine A.bS 0 rfl fun hb1 => ?_
 obtain ⟨B1, K1, hB1, hK1, hm⟩ := forI_some hm
 refine A.lpI (l := sa0) (j0 := 0) (B := B1) (K := K1) hm (fun j1 => fun sg => match sg with | () => [(0, lf eGLink sa0), (1, .cfn f_g f_c), (7, i6 (sa0.length:Int)), (8, i6 (j1 : Int))]) (fun j1 => fun sg => match sg with | () => []) ?_ ?_ ?_
 ·exact qW
 ·rintro j1 e1 Z1 ⟨⟩ hj1 hx1 hm
  rw [hB1] at hm
  refine qDs [] [] [(9, .bool (decide ((j1 : Int) < (sa0.length:Int))))] ?_
  refine A.seq ?_
  refine qT (ltT hx1) ?_
  refine A.skip ?_
  show acode _ _ _ _ _
  refine A.seq ?_
  refine A.block ?_
  refine qDs [] [9] [(5, i6 (j1 : Int))] ?_
  obtain ⟨vx_1, h1, hm⟩ := bnd_some hm
  refine qDs [(3, hix (ix eGLink (elO_nat hx1))), (5, hrf (f_f _ _ h1) f_k)] [] [(16, .bool vx_1)] ?_
  rcases cs_some hm with ⟨c1,hm⟩|⟨c1,hm⟩
  ·refine qT c1 ?_
   refine qS [] [(4, i6 (j1 : Int))] [] ?_
   cases hm
   exact A.ret qE
  refine qF c1 ?_
  refine A.skip ?_
  show acode _ _ _ _ _
  refine qGs [(0, hto (inc hx1 hb1))] [8, 5, 16] [(8, i6 ((j1 + 1 : Nat) : Int))] ?_
  exact qX () hm
 rintro j1 ⟨⟩ hj1 hl1 hm
 rw [hK1] at hm
 refine qDs [] [] [(9, .bool (decide ((j1 : Int) < (sa0.length:Int))))] ?_
 refine A.seq ?_
 refine qF (ltF hl1) ?_
 refine A.exit ?_
 show acode _ _ _ _ _
 refine qS [] [(4, i6 (-1))] [] ?_
 cases hm
 exact A.ret qE
theorem m_slices_ContainsFunc_Lapi_Router_api_Router_ok {sa0 : List GRouter} {f : GRouter → Option Bool} {f_g : Nat} {f_c : List AV} (f_k : CallOk Try.prog f_g) (f_f : ∀ (y0 : GRouter) (q : Bool), f y0 = some q → RO Try.prog f_g [] ([.agg (k0 y0)] ++ f_c) (.bool q)) {r : Bool} (hm : m_slices_ContainsFunc_Lapi_Router_api_Router sa0 f = some r) : RO Try.prog 75 [] [lf eGRouter sa0, .cfn f_g f_c] (.bool r) := by
 refine enterA Try.func75 rfl rfl ?_
 unfold m_slices_ContainsFunc_Lapi_Router_api_Router at hm
 refine qS [] [(0, lf eGRouter sa0), (1, .cfn f_g f_c)] [] ?_
 obtain ⟨vx_1, h1, hm⟩ := bnd_some hm
 refine qS [(2, hro (m_slices_IndexFunc_Lapi_Router_api_Router_ok (f_k := f_k) (f_f := f_f) h1) ck89)] [(4, .bool (decide ((0:Int) ≤ vx_1)))] [] ?_
 cases hm
 exact A.ret qE
theorem m_slices_ContainsFunc_Lapi_Link_api_Link_ok {sa0 : List GLink} {f : GLink → Option Bool} {f_g : Nat} {f_c : List AV} (f_k : CallOk Try.prog f_g) (f_f : ∀ (y0 : GLink) (q : Bool), f y0 = some q → RO Try.prog f_g [] ([.agg (k1 y0)] ++ f_c) (.bool q)) {r : Bool} (hm : m_slices_ContainsFunc_Lapi_Link_api_Link sa0 f = some r) : RO Try.prog 81 [] [lf eGLink sa0, .cfn f_g f_c] (.bool r) := by
 refine enterA Try.func81 rfl rfl ?_
 unfold m_slices_ContainsFunc_Lapi_Link_api_Link at hm
 refine qS [] [(0, lf eGLink sa0), (1, .cfn f_g f_c)] [] ?_
 obtain ⟨vx_1, h1, hm⟩ := bnd_some hm
 refine qS [(2, hro (m_slices_IndexFunc_Lapi_Link_api_Link_ok (f_k := f_k) (f_f := f_f) h1) ck90)] [(4, .bool (decide ((0:Int) ≤ vx_1)))] [] ?_
 cases hm
 exact A.ret qE
theorem m_topology_in_ok {n : Int} {least : Int} {most : Int} {r : Bool} (hm : m_topology_in n least most = some r) : RO Try.prog 77 [] [i6 n, i6 least, i6 most] (.bool r) := by
 refine enterA Try.func77 rfl rfl ?_
 unfold m_topology_in at hm
 refine qS [] [(0, i6 n), (1, i6 least), (2, i6 most)] [] ?_
 refine A.mid [(6, .bool ((decide (least ≤ n)) && (decide (n ≤ most))))] [] (fun hk => ?_) ?_
 ·rcases tf (decide (least ≤ n)) with c1 | c1
  ·exact qS [(3, hto (bE c1)), (8, hto (andT (q := decide (n ≤ most)) c1))] _ _ hk
  exact qS [(3, hto (bE c1)), (8, hto (andF (q := decide (n ≤ most)) c1))] _ _ hk
 cases hm
 exact A.ret qE
theorem m_topology_compare_ok {a : GLink} {b : GLink} {r : Int} (hm : m_topology_compare a b = some r) : RO Try.prog 72 [] [.agg (k1 a), .agg (k1 b)] (i6 r) := by
 refine enterA Try.func72 rfl rfl ?_
 unfold m_topology_compare at hm
 refine qS [(0, .al 72002), (1, .al 72003)] [(2, .ptr 72002 0), (3, .ptr 72003 0)] [(72002, .cells 42 (k1 a)), (72003, .cells 42 (k1 b))] ?_
 obtain ⟨vx_1, h1, hm⟩ := bnd_some hm
 obtain ⟨vx_2, h2, hm⟩ := bnd_some hm
 obtain ⟨vx_3, h3, hm⟩ := bnd_some hm
 refine qS [(4, hro (m_cmp_Compare_int_ok h1) ck66), (9, hro (m_cmp_Compare_int_ok h2) ck66), (11, hro (m_cmp_Or_int_ok h3) ck88)] [(4, i6 vx_3)] [] ?_
 cases hm
 exact A.ret qE
theorem m_topology_byID_ok {ra0 : GRouter} {id : Int} {r : Int} (hm : m_topology_byID ra0 id = some r) : RO Try.prog 80 [] [.agg (k0 ra0), i6 id] (i6 r) := by
 refine enterA Try.func80 rfl rfl ?_
 unfold m_topology_byID at hm
 refine qS [(0, .al 80002)] [(1, i6 id), (2, .ptr 80002 0)] [(80002, .cells 67 (k0 ra0))] ?_
 obtain ⟨vx_1, h1, hm⟩ := bnd_some hm
 refine qS [(3, hro (m_cmp_Compare_int_ok h1) ck66)] [(4, i6 vx_1)] [] ?_
 cases hm
 exact A.ret qE
theorem m_topology_Check_1_ok {ra0 : GRouter} {r : Bool} (hm : m_topology_Check_1 ra0 = some r) : RO Try.prog 76 [] [.agg (k0 ra0)] (.bool r) := by
 refine enterA Try.func76 rfl rfl ?_
 unfold m_topology_Check_1 at hm
 refine qS [(0, .al 76001)] [(1, .ptr 76001 0)] [(76001, .cells 67 (k0 ra0))] ?_
 obtain ⟨vx_1, h1, hm⟩ := bnd_some hm
 refine qS [(2, hro (m_topology_in_ok h1) ck77)] [(2, .bool (!vx_1))] [] ?_
 cases hm
 exact A.ret qE
theorem m_topology_Check_3_ok {l : GLink} {r : Bool} (hm : m_topology_Check_3 l = some r) : RO Try.prog 82 [] [.agg (k1 l)] (.bool r) := by
 refine enterA Try.func82 rfl rfl ?_
 unfold m_topology_Check_3 at hm
 refine qS [(0, .al 82001)] [(1, .ptr 82001 0)] [(82001, .cells 42 (k1 l))] ?_
 obtain ⟨vx_1, h1, hm⟩ := bnd_some hm
 rcases cs_some hm with ⟨c1,hm⟩|⟨c1,hm⟩
 ·refine qS [(2, hro (m_topology_in_ok h1) ck77), (4, hto (bE c1))] [(2, .bool true)] [] ?_
  cases hm
  exact A.ret qE
 obtain ⟨vx_2, h2, hm⟩ := bnd_some hm
 rcases cs_some hm with ⟨c2,hm⟩|⟨c2,hm⟩
 ·refine qS [(2, hro (m_topology_in_ok h1) ck77), (4, hto (bE c1)), (7, hro (m_topology_in_ok h2) ck77), (10, hto (bE c2))] [(2, .bool true)] [] ?_
  cases hm
  exact A.ret qE
 obtain ⟨vx_3, h3, hm⟩ := bnd_some hm
 refine qS [(2, hro (m_topology_in_ok h1) ck77), (4, hto (bE c1)), (7, hro (m_topology_in_ok h2) ck77), (10, hto (bE c2)), (13, hro (m_topology_in_ok h3) ck77)] [(2, .bool (!vx_3))] [] ?_
 cases hm
 exact A.ret qE
theorem m_topology_Check_2_ok {id : Int} {c_0 : GTopology} {r : Bool} (hm : m_topology_Check_2 id c_0 = some r) : RO Try.prog 78 [] [i6 id, .lptr (k2 c_0)] (.bool r) := by
 refine enterA Try.func78 rfl rfl ?_
 unfold m_topology_Check_2 at hm
 refine qS [] [(0, i6 id), (1, .lptr (k2 c_0))] [] ?_
 obtain ⟨vx_1, h1, hm⟩ := bnd_some hm
 refine qS [(3, hro (m_slices_BinarySearchFunc_Lapi_Router_api_Router_int_ok (cmp_g := 80) (cmp_c := []) (cmp_k := ck80) (cmp_f := fun _ _ _ h => m_topology_byID_ok h) h1) ck79)] [(5, .bool vx_1.2)] [] ?_
 refine qS [] [(3, .bool (!vx_1.2))] [] ?_
 cases hm
 exact A.ret qE
theorem m_topology_Check_4_ok {l : GLink} {c_0 : GTopology} {r : Bool} (hm : m_topology_Check_4 l c_0 = some r) : RO Try.prog 83 [] [.agg (k1 l), .lptr [.fn 78 [.lptr (k2 c_0)]]] (.bool r) := by
 refine enterA Try.func83 rfl rfl ?_
 unfold m_topology_Check_4 at hm
 refine qS [(0, .al 83002)] [(1, .lptr [.fn 78 [.lptr (k2 c_0)]]), (2, .ptr 83002 0)] [(83002, .cells 42 (k1 l))] ?_
 obtain ⟨vx_1, h1, hm⟩ := bnd_some hm
 rcases cs_some hm with ⟨c1,hm⟩|⟨c1,hm⟩
 ·refine qS [(3, hle [] (m_topology_Check_2_ok h1) ck78), (4, hto (bE c1))] [(3, .bool true)] [] ?_
  cases hm
  exact A.ret qE
 obtain ⟨vx_2, h2, hm⟩ := bnd_some hm
 refine qS [(3, hle [] (m_topology_Check_2_ok h1) ck78), (4, hto (bE c1)), (8, hle [] (m_topology_Check_2_ok h2) ck78)] [(3, .bool vx_2)] [] ?_
 cases hm
 exact A.ret qE
theorem m_topology_Check_5_ok {l : GLink} {r : Bool} (hm : m_topology_Check_5 l = some r) : RO Try.prog 84 [] [.agg (k1 l)] (.bool r) := by
 refine enterA Try.func84 rfl rfl ?_
 unfold m_topology_Check_5 at hm
 refine qS [(0, .al 84001)] [(1, .ptr 84001 0)] [(84001, .cells 42 (k1 l))] ?_
 refine qS [] [(2, .bool (decide (l.B ≤ l.A)))] [] ?_
 cases hm
 exact A.ret qE
theorem m_topology_Check_ok {t : GTopology} {r : Int} (hm : m_topology_Check t = some r) : RO Try.prog 63 [] [.agg (k2 t)] (i6 r) := by
 refine enterA Try.func63 rfl rfl ?_
 unfold m_topology_Check at hm
 refine qS [(0, .al 63001)] [(1, .ptr 63001 0)] [(63001, .cells 28 (k2 t))] ?_
 refine A.seq ?_
 refine A.block ?_
 refine A.mid [(1, .ptr 63001 0), (6, .bool ((decide ((24:Int) < (t.Routers.length:Int))) || (decide ((60:Int) < (t.Links.length:Int)))))] [(63001, .cells 28 (k2 t))] (fun hk => ?_) ?_
 ·rcases tf (decide ((24:Int) < (t.Routers.length:Int))) with c1 | c1
  ·exact qS [(2, hto (lnE eGRouter t.Routers)), (4, hto (bE c1)), (10, hto (orT (q := decide ((60:Int) < (t.Links.length:Int))) c1))] _ _ hk
  exact qS [(2, hto (lnE eGRouter t.Routers)), (4, hto (bE c1)), (7, hto (lnE eGLink t.Links)), (10, hto (orF (q := decide ((60:Int) < (t.Links.length:Int))) c1))] _ _ hk
 rcases cs_some hm with ⟨c2,hm⟩|⟨c2,hm⟩
 ·refine qT c2 ?_
  refine qS [] [(2, i6 3)] [] ?_
  cases hm
  exact A.ret qE
 refine qF c2 ?_
 obtain ⟨vx_1, h1, hm⟩ := bnd_some hm
 refine qDs [(2, hro (m_slices_ContainsFunc_Lapi_Router_api_Router_ok (f_g := 76) (f_c := []) (f_k := ck76) (f_f := fun _ _ h => m_topology_Check_1_ok h) h1) ck75)] [6] [(17, .bool vx_1)] ?_
 rcases cs_some hm with ⟨c3,hm⟩|⟨c3,hm⟩
 ·refine qT c3 ?_
  refine qS [] [(2, i6 2)] [] ?_
  cases hm
  exact A.ret qE
 refine qF c3 ?_
 refine A.skip ?_
 show acode _ _ _ _ _
 refine A.seq ?_
 refine qDs [(2, hto (lnE eGRouter t.Routers))] [17] [(23, i6 (t.Routers.length:Int)), (24, i6 0)] ?_
 refine A.block ?_
 refine A.bC 1 0 rfl rfl rfl fun hb1 => ?_
 obtain ⟨B1, K1, hB1, hK1, hm⟩ := forI_some hm
 refine A.lpI (l := t.Routers) (j0 := 0) (B := B1) (K := K1) hm (fun j1 => fun sg => match sg with | () => [(1, .ptr 63001 0), (23, i6 (t.Routers.length:Int)), (24, i6 (j1 : Int))]) (fun j1 => fun sg => match sg with | () => [(63001, .cells 28 (k2 t))]) ?_ ?_ ?_
 ·exact qW
 ·rintro j1 e1 Z1 ⟨⟩ hj1 hx1 hm
  rw [hB1] at hm
  refine qDs [] [] [(25, .bool (decide ((j1 : Int) < (t.Routers.length:Int))))] ?_
  refine A.seq ?_
  refine qT (ltT hx1) ?_
  refine A.skip ?_
  show acode _ _ _ _ _
  refine A.seq ?_
  refine A.block ?_
  refine qDs [] [25] [(3, i6 (j1 : Int))] ?_
  obtain ⟨J1, hJ1, hm⟩ := jn_some hm
  refine A.J (J := J1) (r := r) (fun v_1 => [(1, .ptr 63001 0), (23, i6 (t.Routers.length:Int)), (24, i6 (j1 : Int)), (44, .bool v_1)]) (fun v_1 => [(63001, .cells 28 (k2 t))]) ?_ ?_
  ·rcases cs_some hm with ⟨c4,hm⟩|⟨c4,hm⟩
   ·obtain ⟨e_1, h2, hm⟩ := bnd_some hm
    refine qGs [(2, hto (bE c4)), (7, hix (ix eGRouter h2)), (13, hix (ix eGRouter (elO_nat hx1)))] [3] [(44, .bool (decide (e1.ID ≤ e_1.ID)))] ?_
    exact qX (decide (e1.ID ≤ e_1.ID)) hm
   refine qGs [(2, hto (bE c4))] [3] [(44, .bool false)] ?_
   exact qX false hm
  rintro v_1 hm
  rw [hJ1] at hm
  rcases cs_some hm with ⟨c5,hm⟩|⟨c5,hm⟩
  ·refine qT c5 ?_
   refine qS [] [(2, i6 25)] [] ?_
   cases hm
   exact A.ret qE
  refine qF c5 ?_
  refine A.skip ?_
  show acode _ _ _ _ _
  refine qGs [(0, hto (inc hx1 hb1))] [24, 44] [(24, i6 ((j1 + 1 : Nat) : Int))] ?_
  exact qX () hm
 rintro j1 ⟨⟩ hj1 hl1 hm
 rw [hK1] at hm
 refine qDs [] [] [(25, .bool (decide ((j1 : Int) < (t.Routers.length:Int))))] ?_
 refine A.seq ?_
 refine qF (ltF hl1) ?_
 refine A.exit ?_
 show acode _ _ _ _ _
 refine qD [(1, .al 63004)] [23, 24, 25] [(4, .ptr 63004 0)] [] [(63004, .cells 69 [.fn 78 [.ptr 63001 0]])] ?_
 refine A.seq ?_
 refine A.block ?_
 obtain ⟨vx_2, h3, hm⟩ := bnd_some hm
 refine qDs [(2, hro (m_slices_ContainsFunc_Lapi_Link_api_Link_ok (f_g := 82) (f_c := []) (f_k := ck82) (f_f := fun _ _ h => m_topology_Check_3_ok h) h3) ck81)] [] [(47, .bool vx_2)] ?_
 rcases cs_some hm with ⟨c6,hm⟩|⟨c6,hm⟩
 ·refine qT c6 ?_
  refine qS [] [(2, i6 2)] [] ?_
  cases hm
  exact A.ret qE
 refine qF c6 ?_
 obtain ⟨vx_3, h4, hm⟩ := bnd_some hm
 refine qD [(3, hle [63004, 63001] (m_slices_ContainsFunc_Lapi_Link_api_Link_ok (f_g := 83) (f_c := [.lptr [.fn 78 [.lptr (k2 t)]]]) (f_k := ck83) (f_f := fun _ _ h => m_topology_Check_4_ok h) h4) ck81)] [4, 47] [(51, .bool vx_3)] [63004] [] ?_
 rcases cs_some hm with ⟨c7,hm⟩|⟨c7,hm⟩
 ·refine qT c7 ?_
  refine qS [] [(2, i6 4)] [] ?_
  cases hm
  exact A.ret qE
 refine qF c7 ?_
 obtain ⟨vx_4, h5, hm⟩ := bnd_some hm
 refine qDs [(2, hro (m_slices_ContainsFunc_Lapi_Link_api_Link_ok (f_g := 84) (f_c := []) (f_k := ck84) (f_f := fun _ _ h => m_topology_Check_5_ok h) h5) ck81)] [51] [(56, .bool vx_4)] ?_
 rcases cs_some hm with ⟨c8,hm⟩|⟨c8,hm⟩
 ·refine qT c8 ?_
  refine qS [] [(2, i6 8)] [] ?_
  cases hm
  exact A.ret qE
 refine qF c8 ?_
 refine A.skip ?_
 show acode _ _ _ _ _
 refine A.seq ?_
 refine qDs [(2, hto (lnE eGLink t.Links))] [56] [(62, i6 (t.Links.length:Int)), (63, i6 0)] ?_
 refine A.block ?_
 refine A.bC 1 1 rfl rfl rfl fun hb2 => ?_
 obtain ⟨B2, K2, hB2, hK2, hm⟩ := forI_some hm
 refine A.lpI (l := t.Links) (j0 := 0) (B := B2) (K := K2) hm (fun j2 => fun sg => match sg with | () => [(1, .ptr 63001 0), (62, i6 (t.Links.length:Int)), (63, i6 (j2 : Int))]) (fun j2 => fun sg => match sg with | () => [(63001, .cells 28 (k2 t))]) ?_ ?_ ?_
 ·exact qW
 ·rintro j2 e2 Z2 ⟨⟩ hj2 hx2 hm
  rw [hB2] at hm
  refine qDs [] [] [(64, .bool (decide ((j2 : Int) < (t.Links.length:Int))))] ?_
  refine A.seq ?_
  refine qT (ltT hx2) ?_
  refine A.skip ?_
  show acode _ _ _ _ _
  refine A.seq ?_
  refine A.block ?_
  refine qDs [] [64] [(5, i6 (j2 : Int))] ?_
  obtain ⟨J2, hJ2, hm⟩ := jn_some hm
  refine A.J (J := J2) (r := r) (fun v_2 => [(1, .ptr 63001 0), (62, i6 (t.Links.length:Int)), (63, i6 (j2 : Int)), (82, .bool v_2)]) (fun v_2 => [(63001, .cells 28 (k2 t))]) ?_ ?_
  ·rcases cs_some hm with ⟨c9,hm⟩|⟨c9,hm⟩
   ·obtain ⟨e_2, h6, hm⟩ := bnd_some hm
    obtain ⟨vx_5, h7, hm⟩ := bnd_some hm
    refine qGs [(2, hto (bE c9)), (7, hix (ix eGLink h6)), (12, hix (ix eGLink (elO_nat hx2))), (14, hro (m_topology_compare_ok h7) ck72)] [5] [(82, .bool (decide ((0:Int) ≤ vx_5)))] ?_
    exact qX (decide ((0:Int) ≤ vx_5)) hm
   refine qGs [(2, hto (bE c9))] [5] [(82, .bool false)] ?_
   exact qX false hm
  rintro v_2 hm
  rw [hJ2] at hm
  rcases cs_some hm with ⟨c10,hm⟩|⟨c10,hm⟩
  ·refine qT c10 ?_
   refine qS [] [(2, i6 25)] [] ?_
   cases hm
   exact A.ret qE
  refine qF c10 ?_
  refine A.skip ?_
  show acode _ _ _ _ _
  refine qGs [(0, hto (inc hx2 hb2))] [63, 82] [(63, i6 ((j2 + 1 : Nat) : Int))] ?_
  exact qX () hm
 rintro j2 ⟨⟩ hj2 hl2 hm
 rw [hK2] at hm
 refine qDs [] [] [(64, .bool (decide ((j2 : Int) < (t.Links.length:Int))))] ?_
 refine A.seq ?_
 refine qF (ltF hl2) ?_
 refine A.exit ?_
 show acode _ _ _ _ _
 refine qS [] [(2, i6 0)] [] ?_
 cases hm
 exact A.ret qE
theorem m_topology_valid_ok {t : GTopology} {r : Bool} (hm : m_topology_valid t = some r) : RO Try.prog 70 [] [.agg (k2 t)] (.bool r) := by
 refine enterA Try.func70 rfl rfl ?_
 unfold m_topology_valid at hm
 refine qS [(0, .al 70001)] [(1, .ptr 70001 0)] [(70001, .cells 28 (k2 t))] ?_
 obtain ⟨vx_1, h1, hm⟩ := bnd_some hm
 refine qS [(1, hro (m_topology_Check_ok h1) ck63)] [(2, .bool (decide (vx_1 = (0:Int))))] [] ?_
 cases hm
 exact A.ret qE
theorem m_topology_find_ok {t : GTopology} {router : Int} {r : GRouter × Bool} (hm : m_topology_find t router = some r) : RO Try.prog 69 [] [.agg (k2 t), i6 router] (.tup [.agg (k0 r.1), .bool r.2]) := by
 refine enterA Try.func69 rfl rfl ?_
 unfold m_topology_find at hm
 refine qS [(0, .al 69002), (1, .al 69004)] [(1, i6 router), (2, .ptr 69002 0), (4, .ptr 69004 0)] [(69002, .cells 28 (k2 t)), (69004, .cells 67 [i6 0, .bool false])] ?_
 obtain ⟨vx_1, h1, hm⟩ := bnd_some hm
 refine qDs [(3, hro (m_slices_BinarySearchFunc_Lapi_Router_api_Router_int_ok (cmp_g := 80) (cmp_c := []) (cmp_k := ck80) (cmp_f := fun _ _ _ h => m_topology_byID_ok h) h1) ck79)] [1] [(6, i6 vx_1.1), (7, .bool vx_1.2)] ?_
 refine A.seq ?_
 refine qDs [] [7] [(16, .bool (!vx_1.2))] ?_
 rcases cs_some hm with ⟨c1,hm⟩|⟨c1,hm⟩
 ·refine qT c1 ?_
  refine qD [] [2, 6, 16] [(5, .bool false)] [69002] [] ?_
  cases hm
  exact A.ret qE
 refine qF c1 ?_
 refine A.skip ?_
 show acode _ _ _ _ _
 obtain ⟨e_1, h2, hm⟩ := bnd_some hm
 refine qS [(3, hix (ix eGRouter h2))] [(4, .ptr 69004 0), (5, .bool true)] [(69004, .cells 67 (k0 e_1))] ?_
 cases hm
 exact A.ret qE
theorem m_topology_Has_ok {t : GTopology} {router : Int} {r : Bool} (hm : m_topology_Has t router = some r) : RO Try.prog 53 [] [.agg (k2 t), i6 router] (.bool r) := by
 refine enterA Try.func53 rfl rfl ?_
 unfold m_topology_Has at hm
 refine qS [(0, .al 53002)] [(1, i6 router), (2, .ptr 53002 0)] [(53002, .cells 28 (k2 t))] ?_
 obtain ⟨vx_1, h1, hm⟩ := bnd_some hm
 refine qDs [(2, hro (m_topology_find_ok h1) ck69), (6, .al 53005)] [1] [(6, .bool vx_1.2)] ?_
 obtain ⟨vx_2, h2, hm⟩ := bnd_some hm
 rcases cs_some hm with ⟨c1,hm⟩|⟨c1,hm⟩
 ·refine qS [(1, hro (m_topology_valid_ok h2) ck70), (2, hto (bE c1))] [(4, .bool vx_1.2)] [] ?_
  cases hm
  exact A.ret qE
 refine qS [(1, hro (m_topology_valid_ok h2) ck70), (2, hto (bE c1))] [(4, .bool false)] [] ?_
 cases hm
 exact A.ret qE
theorem m_topology_Cost_ok {t : GTopology} {froma1 : Int} {toa2 : Int} {r : Int × Bool} (hm : m_topology_Cost t froma1 toa2 = some r) : RO Try.prog 58 [] [.agg (k2 t), i6 froma1, i6 toa2] (.tup [i6 r.1, .bool r.2]) := by
 refine enterA Try.func58 rfl rfl ?_
 unfold m_topology_Cost at hm
 refine qS [(0, .al 58003)] [(1, i6 froma1), (2, i6 toa2), (3, .ptr 58003 0)] [(58003, .cells 28 (k2 t))] ?_
 refine A.seq ?_
 obtain ⟨vx_1, h1, hm⟩ := bnd_some hm
 refine qDs [(1, hro (m_topology_valid_ok h1) ck70)] [] [(12, .bool (!vx_1))] ?_
 rcases cs_some hm with ⟨c1,hm⟩|⟨c1,hm⟩
 ·refine qT c1 ?_
  refine qS [] [(6, i6 0), (7, .bool false)] [] ?_
  cases hm
  exact A.ret qE
 refine qF c1 ?_
 refine A.skip ?_
 show acode _ _ _ _ _
 obtain ⟨vx_2, h2, hm⟩ := bnd_some hm
 refine qDs [(9, hro (m_slices_BinarySearchFunc_Lapi_Link_api_Link_api_Link_ok (cmp_g := 72) (cmp_c := []) (cmp_k := ck72) (cmp_f := fun _ _ _ h => m_topology_compare_ok h) h2) ck71)] [12] [(8, i6 vx_2.1), (9, .bool vx_2.2)] ?_
 refine A.seq ?_
 refine A.block ?_
 refine qDs [] [9] [(26, .bool (!vx_2.2))] ?_
 rcases cs_some hm with ⟨c2,hm⟩|⟨c2,hm⟩
 ·refine qT c2 ?_
  refine qS [] [(6, i6 0), (7, .bool false)] [] ?_
  cases hm
  exact A.ret qE
 refine qF c2 ?_
 refine qDs [] [1, 2, 26] [(29, .bool (decide (froma1 < toa2)))] ?_
 rcases cs_some hm with ⟨c3,hm⟩|⟨c3,hm⟩
 ·refine qT c3 ?_
  obtain ⟨e_1, h3, hm⟩ := bnd_some hm
  refine qS [(3, hix (ix eGLink h3))] [(6, i6 e_1.CostA), (7, .bool true)] [] ?_
  cases hm
  exact A.ret qE
 refine qF c3 ?_
 refine A.skip ?_
 show acode _ _ _ _ _
 obtain ⟨e_2, h4, hm⟩ := bnd_some hm
 refine qS [(3, hix (ix eGLink h4))] [(6, i6 e_2.CostB), (7, .bool true)] [] ?_
 cases hm
 exact A.ret qE
end Go.Proofs.Ytflifgcoleknlaa
