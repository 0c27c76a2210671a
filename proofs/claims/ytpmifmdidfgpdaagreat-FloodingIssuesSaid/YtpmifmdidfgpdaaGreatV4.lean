/- The eR of cw of the program. No condition but bT bF stand in each. -/
import Derived.Test.YtpmifmdidfgpdaaGreatDA
namespace Go.Proofs.YtpmifmdidfgpdaaGreat
open Go
set_option maxRecDepth 100000
set_option linter.all false
theorem sL {xa0 : Int} {r : Bool} (hm : lU xa0 = some r) : RO Tryz.prog 162 [] [i6 xa0] (.bool r) := by
 refine aQ Tryz.func162 rfl rfl ?_
 unfold lU at hm
 refine qS [] [(0, i6 xa0)] [] ?_
 refine qS [] [(2, .bool (!decide (xa0 = xa0)))] [] ?_
 cases hm
 exact A.ret qE
theorem gC {xa0 : Int} {y : Int} {r : Int} (hm : ew xa0 y = some r) : RO Tryz.prog 134 [] [i6 xa0, i6 y] (i6 r) := by
 refine aQ Tryz.func134 rfl rfl ?_
 unfold ew at hm
 refine qS [] [(0, i6 xa0), (1, i6 y)] [] ?_
 obtain ⟨af, h1, hm⟩ := aa hm
 refine qDs [(1, hro (sL h1) aks)] [] [(5, .bool af)] ?_
 obtain ⟨aq, h2, hm⟩ := aa hm
 refine qDs [(1, hro (sL h2) aks)] [] [(6, .bool aq)] ?_
 refine A.seq ?_
 refine qDs [] [5] [(11, .bool af)] ?_
 rcases ah hm with ⟨c1,hm⟩|⟨c1,hm⟩
 ·refine qT c1 ?_
  refine A.seq ?_
  refine qS [] [(12, .bool aq)] [] ?_
  rcases ah hm with ⟨c2,hm⟩|⟨c2,hm⟩
  ·refine qT c2 ?_
   refine qS [] [(4, i6 0)] [] ?_
   cases hm
   exact A.ret qE
  refine qF c2 ?_
  refine A.skip ?_
  show ai _ _ _ _ _
  refine qS [] [(4, i6 (-1))] [] ?_
  cases hm
  exact A.ret qE
 refine qF c1 ?_
 refine A.skip ?_
 show ai _ _ _ _ _
 refine A.seq ?_
 refine qDs [] [6, 11] [(13, .bool aq)] ?_
 rcases ah hm with ⟨c3,hm⟩|⟨c3,hm⟩
 ·refine qT c3 ?_
  refine qS [] [(4, i6 1)] [] ?_
  cases hm
  exact A.ret qE
 refine qF c3 ?_
 refine A.skip ?_
 show ai _ _ _ _ _
 refine A.seq ?_
 refine qDs [] [13] [(16, .bool (decide (xa0 < y)))] ?_
 rcases ah hm with ⟨c4,hm⟩|⟨c4,hm⟩
 ·refine qT c4 ?_
  refine qS [] [(4, i6 (-1))] [] ?_
  cases hm
  exact A.ret qE
 refine qF c4 ?_
 refine A.skip ?_
 show ai _ _ _ _ _
 refine A.seq ?_
 refine qS [] [(19, .bool (decide (y < xa0)))] [] ?_
 rcases ah hm with ⟨c5,hm⟩|⟨c5,hm⟩
 ·refine qT c5 ?_
  refine qS [] [(4, i6 1)] [] ?_
  cases hm
  exact A.ret qE
 refine qF c5 ?_
 refine A.skip ?_
 show ai _ _ _ _ _
 refine qS [] [(4, i6 0)] [] ?_
 cases hm
 exact A.ret qE
theorem va {vals : List Int} {r : Int} (hm : mU vals = some r) : RO Tryz.prog 133 [] [lf aY vals] (i6 r) := by
 refine aQ Tryz.func133 rfl rfl ?_
 unfold mU at hm
 refine qS [] [(0, lf aY vals)] [] ?_
 refine qDs [] [] [(3, i6 0)] ?_
 refine A.seq ?_
 refine qDs [(1, hto (lnE aY vals))] [0] [(6, lf aY vals), (7, i6 (vals.length:Int)), (8, i6 0)] ?_
 refine A.block ?_
 refine A.bS 6 rfl fun hb1 => ?_
 obtain ⟨B1, K1, hB1, hK1, hm⟩ := bq hm
 refine A.lpI (l := vals) (j0 := 0) (B := B1) (K := K1) hm (fun j1 => fun sg => match sg with | () => [(3, i6 0), (6, lf aY vals), (7, i6 (vals.length:Int)), (8, i6 (j1 : Int))]) (fun j1 => fun sg => match sg with | () => []) ?_ ?_ ?_
 ·exact qW
 ·rintro j1 e1 Z1 ⟨⟩ hj1 hx1 hm
  rw [hB1] at hm
  refine qDs [] [] [(9, .bool (decide ((j1 : Int) < (vals.length:Int))))] ?_
  refine A.seq ?_
  refine qT (ltT hx1) ?_
  refine A.skip ?_
  show ai _ _ _ _ _
  refine A.seq ?_
  refine A.block ?_
  refine qDs [(0, hix (ix aY (aV hx1)))] [9] [(5, i6 e1)] ?_
  refine qDs [] [] [(14, .bool (!decide (e1 = (0:Int))))] ?_
  rcases ah hm with ⟨c1,hm⟩|⟨c1,hm⟩
  ·refine qT c1 ?_
   refine qS [] [(2, i6 e1)] [] ?_
   cases hm
   exact A.ret qE
  refine qF c1 ?_
  refine A.skip ?_
  show ai _ _ _ _ _
  refine qGs [(0, hto (inc hx1 hb1))] [8, 5, 14] [(8, i6 ((j1 + 1 : Nat) : Int))] ?_
  exact qX () hm
 rintro j1 ⟨⟩ hj1 hl1 hm
 rw [hK1] at hm
 refine qDs [] [] [(9, .bool (decide ((j1 : Int) < (vals.length:Int))))] ?_
 refine A.seq ?_
 refine qF (ltF hl1) ?_
 refine A.exit ?_
 show ai _ _ _ _ _
 refine qS [] [(2, i6 0)] [] ?_
 cases hm
 exact A.ret qE
theorem eZ {xa0 : List aZ} {target : Int} {cmp : aZ → Int → Option Int} {jy : Nat} {kZ : List AV} (pU : aM Tryz.prog jy) (pV : ∀ (y0 : aZ) (y1 : Int) (q : Int), cmp y0 y1 = some q → RO Tryz.prog jy [] ([.agg (k0 y0), i6 y1] ++ kZ) (i6 q)) {r : Int × Bool} (hm : cq xa0 target cmp = some r) : RO Tryz.prog 104 [] [lf aS xa0, i6 target, .cfn jy kZ] (.tup [i6 r.1, .bool r.2]) := by
 refine aQ Tryz.func104 rfl rfl ?_
 unfold cq at hm
 refine qS [] [(0, lf aS xa0), (1, i6 target), (2, .cfn jy kZ)] [] ?_
 refine qDs [(1, hto (lnE aS xa0))] [] [(8, i6 (xa0.length:Int))] ?_
 refine qDs [] [] [(9, i6 0), (10, i6 (xa0.length:Int))] ?_
 refine A.seq ?_
 refine A.block ?_
 obtain ⟨F1, n1, hF1, hm⟩ := fu hm
 refine A.lpW (F := F1) hm (fun sg => match sg with | (i_1, j_1) => [(0, lf aS xa0), (1, i6 target), (2, .cfn jy kZ), (8, i6 (xa0.length:Int)), (9, i6 i_1), (10, i6 j_1)]) (fun sg => match sg with | (i_1, j_1) => []) ?_ ?_
 ·exact qW
 rintro Z1 ⟨i_1, j_1⟩ hm
 rw [hF1] at hm
 refine A.seq ?_
 refine qDs [] [] [(17, .bool (decide (i_1 < j_1)))] ?_
 rcases ah hm with ⟨c1,hm⟩|⟨c1,hm⟩
 ·refine qT c1 ?_
  refine A.skip ?_
  show ai _ _ _ _ _
  refine A.block ?_
  refine qDs [(4, .sh (1:Int) (by decide))] [17] [(11, i6 (w64 (Int.fdiv (IntKind.wrap .u64 (w64 (i_1 + j_1))) (2 ^ min (1:Int).toNat 64))))] ?_
  obtain ⟨e_1, h1, hm⟩ := aa hm
  obtain ⟨af, h2, hm⟩ := aa hm
  refine qDs [(3, hix (ix aS h1)), (6, hrf (pV _ _ _ h2) pU)] [] [(31, .bool (decide (af < (0:Int))))] ?_
  rcases ah hm with ⟨c2,hm⟩|⟨c2,hm⟩
  ·refine qT c2 ?_
   refine qGs [] [9, 11, 31] [(9, i6 (w64 ((w64 (Int.fdiv (IntKind.wrap .u64 (w64 (i_1 + j_1))) (2 ^ min (1:Int).toNat 64))) + (1:Int))))] ?_
   exact qX (w64 ((w64 (Int.fdiv (IntKind.wrap .u64 (w64 (i_1 + j_1))) (2 ^ min (1:Int).toNat 64))) + (1:Int)), j_1) hm
  refine qF c2 ?_
  refine qGs [] [10, 11, 31] [(10, i6 (w64 (Int.fdiv (IntKind.wrap .u64 (w64 (i_1 + j_1))) (2 ^ min (1:Int).toNat 64))))] ?_
  exact qX (i_1, w64 (Int.fdiv (IntKind.wrap .u64 (w64 (i_1 + j_1))) (2 ^ min (1:Int).toNat 64))) hm
 refine qF c1 ?_
 refine A.exit ?_
 show ai _ _ _ _ _
 rcases ah hm with ⟨c3,hm⟩|⟨c3,hm⟩
 ·obtain ⟨e_2, h3, hm⟩ := aa hm
  obtain ⟨aq, h4, hm⟩ := aa hm
  refine qS [(4, hto (bE c3)), (8, hix (ix aS h3)), (11, hrf (pV _ _ _ h4) pU)] [(6, i6 i_1), (7, .bool (decide (aq = (0:Int))))] [] ?_
  cases hm
  exact A.ret qE
 refine qS [(4, hto (bE c3))] [(6, i6 i_1), (7, .bool false)] [] ?_
 cases hm
 exact A.ret qE
theorem nJ {sa0 : List aU} {f : aU → Option Bool} {f_g : Nat} {f_c : List AV} (f_k : aM Tryz.prog f_g) (f_f : ∀ (y0 : aU) (q : Bool), f y0 = some q → RO Tryz.prog f_g [] ([.agg (k8 y0)] ++ f_c) (.bool q)) {r : Int} (hm : eA sa0 f = some r) : RO Tryz.prog 115 [] [lf aL sa0, .cfn f_g f_c] (i6 r) := by
 refine aQ Tryz.func115 rfl rfl ?_
 unfold eA at hm
 refine qS [] [(0, lf aL sa0), (1, .cfn f_g f_c)] [] ?_
 refine A.seq ?_
 refine qDs [(1, hto (lnE aL sa0))] [] [(7, i6 (sa0.length:Int)), (8, i6 0)] ?_
 refine A.block ?_
 refine A.bS 0 rfl fun hb1 => ?_
 obtain ⟨B1, K1, hB1, hK1, hm⟩ := bq hm
 refine A.lpI (l := sa0) (j0 := 0) (B := B1) (K := K1) hm (fun j1 => fun sg => match sg with | () => [(0, lf aL sa0), (1, .cfn f_g f_c), (7, i6 (sa0.length:Int)), (8, i6 (j1 : Int))]) (fun j1 => fun sg => match sg with | () => []) ?_ ?_ ?_
 ·exact qW
 ·rintro j1 e1 Z1 ⟨⟩ hj1 hx1 hm
  rw [hB1] at hm
  refine qDs [] [] [(9, .bool (decide ((j1 : Int) < (sa0.length:Int))))] ?_
  refine A.seq ?_
  refine qT (ltT hx1) ?_
  refine A.skip ?_
  show ai _ _ _ _ _
  refine A.seq ?_
  refine A.block ?_
  refine qDs [] [9] [(5, i6 (j1 : Int))] ?_
  obtain ⟨af, h1, hm⟩ := aa hm
  refine qDs [(3, hix (ix aL (aV hx1))), (5, hrf (f_f _ _ h1) f_k)] [] [(16, .bool af)] ?_
  rcases ah hm with ⟨c1,hm⟩|⟨c1,hm⟩
  ·refine qT c1 ?_
   refine qS [] [(4, i6 (j1 : Int))] [] ?_
   cases hm
   exact A.ret qE
  refine qF c1 ?_
  refine A.skip ?_
  show ai _ _ _ _ _
  refine qGs [(0, hto (inc hx1 hb1))] [8, 5, 16] [(8, i6 ((j1 + 1 : Nat) : Int))] ?_
  exact qX () hm
 rintro j1 ⟨⟩ hj1 hl1 hm
 rw [hK1] at hm
 refine qDs [] [] [(9, .bool (decide ((j1 : Int) < (sa0.length:Int))))] ?_
 refine A.seq ?_
 refine qF (ltF hl1) ?_
 refine A.exit ?_
 show ai _ _ _ _ _
 refine qS [] [(4, i6 (-1))] [] ?_
 cases hm
 exact A.ret qE
theorem jm {xa0 : List aX} {target : aX} {cmp : aX → aX → Option Int} {jy : Nat} {kZ : List AV} (pU : aM Tryz.prog jy) (pV : ∀ (y0 : aX) (y1 : aX) (q : Int), cmp y0 y1 = some q → RO Tryz.prog jy [] ([.agg (k1 y0), .agg (k1 y1)] ++ kZ) (i6 q)) {r : Int × Bool} (hm : dM xa0 target cmp = some r) : RO Tryz.prog 140 [] [lf az xa0, .agg (k1 target), .cfn jy kZ] (.tup [i6 r.1, .bool r.2]) := by
 refine aQ Tryz.func140 rfl rfl ?_
 unfold dM at hm
 refine qS [(0, .al 140004)] [(0, lf az xa0), (2, .cfn jy kZ), (4, .ptr 140004 0)] [(140004, .cells 78 (k1 target))] ?_
 refine qDs [(1, hto (lnE az xa0))] [] [(8, i6 (xa0.length:Int))] ?_
 refine qDs [] [] [(9, i6 0), (10, i6 (xa0.length:Int))] ?_
 refine A.seq ?_
 refine A.block ?_
 obtain ⟨F1, n1, hF1, hm⟩ := fu hm
 refine A.lpW (F := F1) hm (fun sg => match sg with | (i_1, j_1) => [(0, lf az xa0), (2, .cfn jy kZ), (4, .ptr 140004 0), (8, i6 (xa0.length:Int)), (9, i6 i_1), (10, i6 j_1)]) (fun sg => match sg with | (i_1, j_1) => [(140004, .cells 78 (k1 target))]) ?_ ?_
 ·exact qW
 rintro Z1 ⟨i_1, j_1⟩ hm
 rw [hF1] at hm
 refine A.seq ?_
 refine qDs [] [] [(17, .bool (decide (i_1 < j_1)))] ?_
 rcases ah hm with ⟨c1,hm⟩|⟨c1,hm⟩
 ·refine qT c1 ?_
  refine A.skip ?_
  show ai _ _ _ _ _
  refine A.block ?_
  refine qDs [(4, .sh (1:Int) (by decide))] [17] [(11, i6 (w64 (Int.fdiv (IntKind.wrap .u64 (w64 (i_1 + j_1))) (2 ^ min (1:Int).toNat 64))))] ?_
  obtain ⟨e_1, h1, hm⟩ := aa hm
  obtain ⟨af, h2, hm⟩ := aa hm
  refine qDs [(3, hix (ix az h1)), (6, hrf (pV _ _ _ h2) pU)] [] [(31, .bool (decide (af < (0:Int))))] ?_
  rcases ah hm with ⟨c2,hm⟩|⟨c2,hm⟩
  ·refine qT c2 ?_
   refine qGs [] [9, 11, 31] [(9, i6 (w64 ((w64 (Int.fdiv (IntKind.wrap .u64 (w64 (i_1 + j_1))) (2 ^ min (1:Int).toNat 64))) + (1:Int))))] ?_
   exact qX (w64 ((w64 (Int.fdiv (IntKind.wrap .u64 (w64 (i_1 + j_1))) (2 ^ min (1:Int).toNat 64))) + (1:Int)), j_1) hm
  refine qF c2 ?_
  refine qGs [] [10, 11, 31] [(10, i6 (w64 (Int.fdiv (IntKind.wrap .u64 (w64 (i_1 + j_1))) (2 ^ min (1:Int).toNat 64))))] ?_
  exact qX (i_1, w64 (Int.fdiv (IntKind.wrap .u64 (w64 (i_1 + j_1))) (2 ^ min (1:Int).toNat 64))) hm
 refine qF c1 ?_
 refine A.exit ?_
 show ai _ _ _ _ _
 rcases ah hm with ⟨c3,hm⟩|⟨c3,hm⟩
 ·obtain ⟨e_2, h3, hm⟩ := aa hm
  obtain ⟨aq, h4, hm⟩ := aa hm
  refine qS [(4, hto (bE c3)), (8, hix (ix az h3)), (11, hrf (pV _ _ _ h4) pU)] [(6, i6 i_1), (7, .bool (decide (aq = (0:Int))))] [] ?_
  cases hm
  exact A.ret qE
 refine qS [(4, hto (bE c3))] [(6, i6 i_1), (7, .bool false)] [] ?_
 cases hm
 exact A.ret qE
theorem mm {sa0 : List aZ} {f : aZ → Option Bool} {f_g : Nat} {f_c : List AV} (f_k : aM Tryz.prog f_g) (f_f : ∀ (y0 : aZ) (q : Bool), f y0 = some q → RO Tryz.prog f_g [] ([.agg (k0 y0)] ++ f_c) (.bool q)) {r : Int} (hm : dS sa0 f = some r) : RO Tryz.prog 146 [] [lf aS sa0, .cfn f_g f_c] (i6 r) := by
 refine aQ Tryz.func146 rfl rfl ?_
 unfold dS at hm
 refine qS [] [(0, lf aS sa0), (1, .cfn f_g f_c)] [] ?_
 refine A.seq ?_
 refine qDs [(1, hto (lnE aS sa0))] [] [(7, i6 (sa0.length:Int)), (8, i6 0)] ?_
 refine A.block ?_
 refine A.bS 0 rfl fun hb1 => ?_
 obtain ⟨B1, K1, hB1, hK1, hm⟩ := bq hm
 refine A.lpI (l := sa0) (j0 := 0) (B := B1) (K := K1) hm (fun j1 => fun sg => match sg with | () => [(0, lf aS sa0), (1, .cfn f_g f_c), (7, i6 (sa0.length:Int)), (8, i6 (j1 : Int))]) (fun j1 => fun sg => match sg with | () => []) ?_ ?_ ?_
 ·exact qW
 ·rintro j1 e1 Z1 ⟨⟩ hj1 hx1 hm
  rw [hB1] at hm
  refine qDs [] [] [(9, .bool (decide ((j1 : Int) < (sa0.length:Int))))] ?_
  refine A.seq ?_
  refine qT (ltT hx1) ?_
  refine A.skip ?_
  show ai _ _ _ _ _
  refine A.seq ?_
  refine A.block ?_
  refine qDs [] [9] [(5, i6 (j1 : Int))] ?_
  obtain ⟨af, h1, hm⟩ := aa hm
  refine qDs [(3, hix (ix aS (aV hx1))), (5, hrf (f_f _ _ h1) f_k)] [] [(16, .bool af)] ?_
  rcases ah hm with ⟨c1,hm⟩|⟨c1,hm⟩
  ·refine qT c1 ?_
   refine qS [] [(4, i6 (j1 : Int))] [] ?_
   cases hm
   exact A.ret qE
  refine qF c1 ?_
  refine A.skip ?_
  show ai _ _ _ _ _
  refine qGs [(0, hto (inc hx1 hb1))] [8, 5, 16] [(8, i6 ((j1 + 1 : Nat) : Int))] ?_
  exact qX () hm
 rintro j1 ⟨⟩ hj1 hl1 hm
 rw [hK1] at hm
 refine qDs [] [] [(9, .bool (decide ((j1 : Int) < (sa0.length:Int))))] ?_
 refine A.seq ?_
 refine qF (ltF hl1) ?_
 refine A.exit ?_
 show ai _ _ _ _ _
 refine qS [] [(4, i6 (-1))] [] ?_
 cases hm
 exact A.ret qE
theorem nK {sa0 : List aX} {f : aX → Option Bool} {f_g : Nat} {f_c : List AV} (f_k : aM Tryz.prog f_g) (f_f : ∀ (y0 : aX) (q : Bool), f y0 = some q → RO Tryz.prog f_g [] ([.agg (k1 y0)] ++ f_c) (.bool q)) {r : Int} (hm : eB sa0 f = some r) : RO Tryz.prog 147 [] [lf az sa0, .cfn f_g f_c] (i6 r) := by
 refine aQ Tryz.func147 rfl rfl ?_
 unfold eB at hm
 refine qS [] [(0, lf az sa0), (1, .cfn f_g f_c)] [] ?_
 refine A.seq ?_
 refine qDs [(1, hto (lnE az sa0))] [] [(7, i6 (sa0.length:Int)), (8, i6 0)] ?_
 refine A.block ?_
 refine A.bS 0 rfl fun hb1 => ?_
 obtain ⟨B1, K1, hB1, hK1, hm⟩ := bq hm
 refine A.lpI (l := sa0) (j0 := 0) (B := B1) (K := K1) hm (fun j1 => fun sg => match sg with | () => [(0, lf az sa0), (1, .cfn f_g f_c), (7, i6 (sa0.length:Int)), (8, i6 (j1 : Int))]) (fun j1 => fun sg => match sg with | () => []) ?_ ?_ ?_
 ·exact qW
 ·rintro j1 e1 Z1 ⟨⟩ hj1 hx1 hm
  rw [hB1] at hm
  refine qDs [] [] [(9, .bool (decide ((j1 : Int) < (sa0.length:Int))))] ?_
  refine A.seq ?_
  refine qT (ltT hx1) ?_
  refine A.skip ?_
  show ai _ _ _ _ _
  refine A.seq ?_
  refine A.block ?_
  refine qDs [] [9] [(5, i6 (j1 : Int))] ?_
  obtain ⟨af, h1, hm⟩ := aa hm
  refine qDs [(3, hix (ix az (aV hx1))), (5, hrf (f_f _ _ h1) f_k)] [] [(16, .bool af)] ?_
  rcases ah hm with ⟨c1,hm⟩|⟨c1,hm⟩
  ·refine qT c1 ?_
   refine qS [] [(4, i6 (j1 : Int))] [] ?_
   cases hm
   exact A.ret qE
  refine qF c1 ?_
  refine A.skip ?_
  show ai _ _ _ _ _
  refine qGs [(0, hto (inc hx1 hb1))] [8, 5, 16] [(8, i6 ((j1 + 1 : Nat) : Int))] ?_
  exact qX () hm
 rintro j1 ⟨⟩ hj1 hl1 hm
 rw [hK1] at hm
 refine qDs [] [] [(9, .bool (decide ((j1 : Int) < (sa0.length:Int))))] ?_
 refine A.seq ?_
 refine qF (ltF hl1) ?_
 refine A.exit ?_
 show ai _ _ _ _ _
 refine qS [] [(4, i6 (-1))] [] ?_
 cases hm
 exact A.ret qE
theorem mo {sa0 : List ak} {f : ak → Option Bool} {f_g : Nat} {f_c : List AV} (f_k : aM Tryz.prog f_g) (f_f : ∀ (y0 : ak) (q : Bool), f y0 = some q → RO Tryz.prog f_g [] ([.agg (k6 y0)] ++ f_c) (.bool q)) {r : Int} (hm : dU sa0 f = some r) : RO Tryz.prog 148 [] [lf aJ sa0, .cfn f_g f_c] (i6 r) := by
 refine aQ Tryz.func148 rfl rfl ?_
 unfold dU at hm
 refine qS [] [(0, lf aJ sa0), (1, .cfn f_g f_c)] [] ?_
 refine A.seq ?_
 refine qDs [(1, hto (lnE aJ sa0))] [] [(7, i6 (sa0.length:Int)), (8, i6 0)] ?_
 refine A.block ?_
 refine A.bS 0 rfl fun hb1 => ?_
 obtain ⟨B1, K1, hB1, hK1, hm⟩ := bq hm
 refine A.lpI (l := sa0) (j0 := 0) (B := B1) (K := K1) hm (fun j1 => fun sg => match sg with | () => [(0, lf aJ sa0), (1, .cfn f_g f_c), (7, i6 (sa0.length:Int)), (8, i6 (j1 : Int))]) (fun j1 => fun sg => match sg with | () => []) ?_ ?_ ?_
 ·exact qW
 ·rintro j1 e1 Z1 ⟨⟩ hj1 hx1 hm
  rw [hB1] at hm
  refine qDs [] [] [(9, .bool (decide ((j1 : Int) < (sa0.length:Int))))] ?_
  refine A.seq ?_
  refine qT (ltT hx1) ?_
  refine A.skip ?_
  show ai _ _ _ _ _
  refine A.seq ?_
  refine A.block ?_
  refine qDs [] [9] [(5, i6 (j1 : Int))] ?_
  obtain ⟨af, h1, hm⟩ := aa hm
  refine qDs [(3, hix (ix aJ (aV hx1))), (5, hrf (f_f _ _ h1) f_k)] [] [(16, .bool af)] ?_
  rcases ah hm with ⟨c1,hm⟩|⟨c1,hm⟩
  ·refine qT c1 ?_
   refine qS [] [(4, i6 (j1 : Int))] [] ?_
   cases hm
   exact A.ret qE
  refine qF c1 ?_
  refine A.skip ?_
  show ai _ _ _ _ _
  refine qGs [(0, hto (inc hx1 hb1))] [8, 5, 16] [(8, i6 ((j1 + 1 : Nat) : Int))] ?_
  exact qX () hm
 rintro j1 ⟨⟩ hj1 hl1 hm
 rw [hK1] at hm
 refine qDs [] [] [(9, .bool (decide ((j1 : Int) < (sa0.length:Int))))] ?_
 refine A.seq ?_
 refine qF (ltF hl1) ?_
 refine A.exit ?_
 show ai _ _ _ _ _
 refine qS [] [(4, i6 (-1))] [] ?_
 cases hm
 exact A.ret qE
theorem tj {sa0 : List Int} {v : Int} {r : Int} (hm : jd sa0 v = some r) : RO Tryz.prog 151 [] [lf aY sa0, i6 v] (i6 r) := by
 refine aQ Tryz.func151 rfl rfl ?_
 unfold jd at hm
 refine qS [] [(0, lf aY sa0), (1, i6 v)] [] ?_
 refine A.seq ?_
 refine qDs [(1, hto (lnE aY sa0))] [] [(7, i6 (sa0.length:Int)), (8, i6 0)] ?_
 refine A.block ?_
 refine A.bS 0 rfl fun hb1 => ?_
 obtain ⟨B1, K1, hB1, hK1, hm⟩ := bq hm
 refine A.lpI (l := sa0) (j0 := 0) (B := B1) (K := K1) hm (fun j1 => fun sg => match sg with | () => [(0, lf aY sa0), (1, i6 v), (7, i6 (sa0.length:Int)), (8, i6 (j1 : Int))]) (fun j1 => fun sg => match sg with | () => []) ?_ ?_ ?_
 ·exact qW
 ·rintro j1 e1 Z1 ⟨⟩ hj1 hx1 hm
  rw [hB1] at hm
  refine qDs [] [] [(9, .bool (decide ((j1 : Int) < (sa0.length:Int))))] ?_
  refine A.seq ?_
  refine qT (ltT hx1) ?_
  refine A.skip ?_
  show ai _ _ _ _ _
  refine A.seq ?_
  refine A.block ?_
  refine qDs [] [9] [(5, i6 (j1 : Int))] ?_
  refine qDs [(3, hix (ix aY (aV hx1)))] [] [(16, .bool (decide (v = e1)))] ?_
  rcases ah hm with ⟨c1,hm⟩|⟨c1,hm⟩
  ·refine qT c1 ?_
   refine qS [] [(4, i6 (j1 : Int))] [] ?_
   cases hm
   exact A.ret qE
  refine qF c1 ?_
  refine A.skip ?_
  show ai _ _ _ _ _
  refine qGs [(0, hto (inc hx1 hb1))] [8, 5, 16] [(8, i6 ((j1 + 1 : Nat) : Int))] ?_
  exact qX () hm
 rintro j1 ⟨⟩ hj1 hl1 hm
 rw [hK1] at hm
 refine qDs [] [] [(9, .bool (decide ((j1 : Int) < (sa0.length:Int))))] ?_
 refine A.seq ?_
 refine qF (ltF hl1) ?_
 refine A.exit ?_
 show ai _ _ _ _ _
 refine qS [] [(4, i6 (-1))] [] ?_
 cases hm
 exact A.ret qE
theorem mV {sa0 : List gi} {f : gi → Option Bool} {f_g : Nat} {f_c : List AV} (f_k : aM Tryz.prog f_g) (f_f : ∀ (y0 : gi) (q : Bool), f y0 = some q → RO Tryz.prog f_g [] ([.agg (k10 y0)] ++ f_c) (.bool q)) {r : Int} (hm : fG sa0 f = some r) : RO Tryz.prog 161 [] [lf ep sa0, .cfn f_g f_c] (i6 r) := by
 refine aQ Tryz.func161 rfl rfl ?_
 unfold fG at hm
 refine qS [] [(0, lf ep sa0), (1, .cfn f_g f_c)] [] ?_
 refine A.seq ?_
 refine qDs [(1, hto (lnE ep sa0))] [] [(7, i6 (sa0.length:Int)), (8, i6 0)] ?_
 refine A.block ?_
 refine A.bS 0 rfl fun hb1 => ?_
 obtain ⟨B1, K1, hB1, hK1, hm⟩ := bq hm
 refine A.lpI (l := sa0) (j0 := 0) (B := B1) (K := K1) hm (fun j1 => fun sg => match sg with | () => [(0, lf ep sa0), (1, .cfn f_g f_c), (7, i6 (sa0.length:Int)), (8, i6 (j1 : Int))]) (fun j1 => fun sg => match sg with | () => []) ?_ ?_ ?_
 ·exact qW
 ·rintro j1 e1 Z1 ⟨⟩ hj1 hx1 hm
  rw [hB1] at hm
  refine qDs [] [] [(9, .bool (decide ((j1 : Int) < (sa0.length:Int))))] ?_
  refine A.seq ?_
  refine qT (ltT hx1) ?_
  refine A.skip ?_
  show ai _ _ _ _ _
  refine A.seq ?_
  refine A.block ?_
  refine qDs [] [9] [(5, i6 (j1 : Int))] ?_
  obtain ⟨af, h1, hm⟩ := aa hm
  refine qDs [(3, hix (ix ep (aV hx1))), (5, hrf (f_f _ _ h1) f_k)] [] [(16, .bool af)] ?_
  rcases ah hm with ⟨c1,hm⟩|⟨c1,hm⟩
  ·refine qT c1 ?_
   refine qS [] [(4, i6 (j1 : Int))] [] ?_
   cases hm
   exact A.ret qE
  refine qF c1 ?_
  refine A.skip ?_
  show ai _ _ _ _ _
  refine qGs [(0, hto (inc hx1 hb1))] [8, 5, 16] [(8, i6 ((j1 + 1 : Nat) : Int))] ?_
  exact qX () hm
 rintro j1 ⟨⟩ hj1 hl1 hm
 rw [hK1] at hm
 refine qDs [] [] [(9, .bool (decide ((j1 : Int) < (sa0.length:Int))))] ?_
 refine A.seq ?_
 refine qF (ltF hl1) ?_
 refine A.exit ?_
 show ai _ _ _ _ _
 refine qS [] [(4, i6 (-1))] [] ?_
 cases hm
 exact A.ret qE
theorem jA {xa0 : List ak} {target : Int} {cmp : ak → Int → Option Int} {jy : Nat} {kZ : List AV} (pU : aM Tryz.prog jy) (pV : ∀ (y0 : ak) (y1 : Int) (q : Int), cmp y0 y1 = some q → RO Tryz.prog jy [] ([.agg (k6 y0), i6 y1] ++ kZ) (i6 q)) {r : Int × Bool} (hm : cG xa0 target cmp = some r) : RO Tryz.prog 165 [] [lf aJ xa0, i6 target, .cfn jy kZ] (.tup [i6 r.1, .bool r.2]) := by
 refine aQ Tryz.func165 rfl rfl ?_
 unfold cG at hm
 refine qS [] [(0, lf aJ xa0), (1, i6 target), (2, .cfn jy kZ)] [] ?_
 refine qDs [(1, hto (lnE aJ xa0))] [] [(8, i6 (xa0.length:Int))] ?_
 refine qDs [] [] [(9, i6 0), (10, i6 (xa0.length:Int))] ?_
 refine A.seq ?_
 refine A.block ?_
 obtain ⟨F1, n1, hF1, hm⟩ := fu hm
 refine A.lpW (F := F1) hm (fun sg => match sg with | (i_1, j_1) => [(0, lf aJ xa0), (1, i6 target), (2, .cfn jy kZ), (8, i6 (xa0.length:Int)), (9, i6 i_1), (10, i6 j_1)]) (fun sg => match sg with | (i_1, j_1) => []) ?_ ?_
 ·exact qW
 rintro Z1 ⟨i_1, j_1⟩ hm
 rw [hF1] at hm
 refine A.seq ?_
 refine qDs [] [] [(17, .bool (decide (i_1 < j_1)))] ?_
 rcases ah hm with ⟨c1,hm⟩|⟨c1,hm⟩
 ·refine qT c1 ?_
  refine A.skip ?_
  show ai _ _ _ _ _
  refine A.block ?_
  refine qDs [(4, .sh (1:Int) (by decide))] [17] [(11, i6 (w64 (Int.fdiv (IntKind.wrap .u64 (w64 (i_1 + j_1))) (2 ^ min (1:Int).toNat 64))))] ?_
  obtain ⟨e_1, h1, hm⟩ := aa hm
  obtain ⟨af, h2, hm⟩ := aa hm
  refine qDs [(3, hix (ix aJ h1)), (6, hrf (pV _ _ _ h2) pU)] [] [(31, .bool (decide (af < (0:Int))))] ?_
  rcases ah hm with ⟨c2,hm⟩|⟨c2,hm⟩
  ·refine qT c2 ?_
   refine qGs [] [9, 11, 31] [(9, i6 (w64 ((w64 (Int.fdiv (IntKind.wrap .u64 (w64 (i_1 + j_1))) (2 ^ min (1:Int).toNat 64))) + (1:Int))))] ?_
   exact qX (w64 ((w64 (Int.fdiv (IntKind.wrap .u64 (w64 (i_1 + j_1))) (2 ^ min (1:Int).toNat 64))) + (1:Int)), j_1) hm
  refine qF c2 ?_
  refine qGs [] [10, 11, 31] [(10, i6 (w64 (Int.fdiv (IntKind.wrap .u64 (w64 (i_1 + j_1))) (2 ^ min (1:Int).toNat 64))))] ?_
  exact qX (i_1, w64 (Int.fdiv (IntKind.wrap .u64 (w64 (i_1 + j_1))) (2 ^ min (1:Int).toNat 64))) hm
 refine qF c1 ?_
 refine A.exit ?_
 show ai _ _ _ _ _
 rcases ah hm with ⟨c3,hm⟩|⟨c3,hm⟩
 ·obtain ⟨e_2, h3, hm⟩ := aa hm
  obtain ⟨aq, h4, hm⟩ := aa hm
  refine qS [(4, hto (bE c3)), (8, hix (ix aJ h3)), (11, hrf (pV _ _ _ h4) pU)] [(6, i6 i_1), (7, .bool (decide (aq = (0:Int))))] [] ?_
  cases hm
  exact A.ret qE
 refine qS [(4, hto (bE c3))] [(6, i6 i_1), (7, .bool false)] [] ?_
 cases hm
 exact A.ret qE
theorem lq {sa0 : List aZ} {f : aZ → Option Bool} {f_g : Nat} {f_c : List AV} (f_k : aM Tryz.prog f_g) (f_f : ∀ (y0 : aZ) (q : Bool), f y0 = some q → RO Tryz.prog f_g [] ([.agg (k0 y0)] ++ f_c) (.bool q)) {r : Bool} (hm : cZ sa0 f = some r) : RO Tryz.prog 100 [] [lf aS sa0, .cfn f_g f_c] (.bool r) := by
 refine aQ Tryz.func100 rfl rfl ?_
 unfold cZ at hm
 refine qS [] [(0, lf aS sa0), (1, .cfn f_g f_c)] [] ?_
 obtain ⟨af, h1, hm⟩ := aa hm
 refine qS [(2, hro (mm (f_k := f_k) (f_f := f_f) h1) auy)] [(4, .bool (decide ((0:Int) ≤ af)))] [] ?_
 cases hm
 exact A.ret qE
theorem eP {sa0 : List aX} {f : aX → Option Bool} {f_g : Nat} {f_c : List AV} (f_k : aM Tryz.prog f_g) (f_f : ∀ (y0 : aX) (q : Bool), f y0 = some q → RO Tryz.prog f_g [] ([.agg (k1 y0)] ++ f_c) (.bool q)) {r : Bool} (hm : cA sa0 f = some r) : RO Tryz.prog 106 [] [lf az sa0, .cfn f_g f_c] (.bool r) := by
 refine aQ Tryz.func106 rfl rfl ?_
 unfold cA at hm
 refine qS [] [(0, lf az sa0), (1, .cfn f_g f_c)] [] ?_
 obtain ⟨af, h1, hm⟩ := aa hm
 refine qS [(2, hro (nK (f_k := f_k) (f_f := f_f) h1) auz)] [(4, .bool (decide ((0:Int) ≤ af)))] [] ?_
 cases hm
 exact A.ret qE
theorem lu {sa0 : List ak} {f : ak → Option Bool} {f_g : Nat} {f_c : List AV} (f_k : aM Tryz.prog f_g) (f_f : ∀ (y0 : ak) (q : Bool), f y0 = some q → RO Tryz.prog f_g [] ([.agg (k6 y0)] ++ f_c) (.bool q)) {r : Bool} (hm : de sa0 f = some r) : RO Tryz.prog 113 [] [lf aJ sa0, .cfn f_g f_c] (.bool r) := by
 refine aQ Tryz.func113 rfl rfl ?_
 unfold de at hm
 refine qS [] [(0, lf aJ sa0), (1, .cfn f_g f_c)] [] ?_
 obtain ⟨af, h1, hm⟩ := aa hm
 refine qS [(2, hro (mo (f_k := f_k) (f_f := f_f) h1) auA)] [(4, .bool (decide ((0:Int) ≤ af)))] [] ?_
 cases hm
 exact A.ret qE
theorem gd {sa0 : List Int} {v : Int} {r : Bool} (hm : dQ sa0 v = some r) : RO Tryz.prog 122 [] [lf aY sa0, i6 v] (.bool r) := by
 refine aQ Tryz.func122 rfl rfl ?_
 unfold dQ at hm
 refine qS [] [(0, lf aY sa0), (1, i6 v)] [] ?_
 obtain ⟨af, h1, hm⟩ := aa hm
 refine qS [(2, hro (tj h1) auC)] [(4, .bool (decide ((0:Int) ≤ af)))] [] ?_
 cases hm
 exact A.ret qE
theorem lY {sa0 : List gi} {f : gi → Option Bool} {f_g : Nat} {f_c : List AV} (f_k : aM Tryz.prog f_g) (f_f : ∀ (y0 : gi) (q : Bool), f y0 = some q → RO Tryz.prog f_g [] ([.agg (k10 y0)] ++ f_c) (.bool q)) {r : Bool} (hm : eX sa0 f = some r) : RO Tryz.prog 131 [] [lf ep sa0, .cfn f_g f_c] (.bool r) := by
 refine aQ Tryz.func131 rfl rfl ?_
 unfold eX at hm
 refine qS [] [(0, lf ep sa0), (1, .cfn f_g f_c)] [] ?_
 obtain ⟨af, h1, hm⟩ := aa hm
 refine qS [(2, hro (mV (f_k := f_k) (f_f := f_f) h1) auH)] [(4, .bool (decide ((0:Int) ≤ af)))] [] ?_
 cases hm
 exact A.ret qE
theorem ic {n : Int} {least : Int} {most : Int} {r : Bool} (hm : iT n least most = some r) : RO Tryz.prog 102 [] [i6 n, i6 least, i6 most] (.bool r) := by
 refine aQ Tryz.func102 rfl rfl ?_
 unfold iT at hm
 refine qS [] [(0, i6 n), (1, i6 least), (2, i6 most)] [] ?_
 refine A.mid [(6, .bool ((decide (least ≤ n)) && (decide (n ≤ most))))] [] (fun hk => ?_) ?_
 ·rcases tf (decide (least ≤ n)) with c1 | c1
  ·exact qS [(3, hto (bE c1)), (8, hto (qY (q := decide (n ≤ most)) c1))] _ _ hk
  exact qS [(3, hto (bE c1)), (8, hto (rZ (q := decide (n ≤ most)) c1))] _ _ hk
 cases hm
 exact A.ret qE
theorem qs {a : aX} {b : aX} {r : Int} (hm : iq a b = some r) : RO Tryz.prog 110 [] [.agg (k1 a), .agg (k1 b)] (i6 r) := by
 refine aQ Tryz.func110 rfl rfl ?_
 unfold iq at hm
 refine qS [(0, .al 110002), (1, .al 110003)] [(2, .ptr 110002 0), (3, .ptr 110003 0)] [(110002, .cells 78 (k1 a)), (110003, .cells 78 (k1 b))] ?_
 obtain ⟨af, h1, hm⟩ := aa hm
 obtain ⟨aq, h2, hm⟩ := aa hm
 obtain ⟨aI, h3, hm⟩ := aa hm
 refine qS [(4, hro (gC h1) yP), (9, hro (gC h2) yP), (11, hro (va h3) akk)] [(4, i6 aI)] [] ?_
 cases hm
 exact A.ret qE
theorem sM {ra0 : aZ} {id : Int} {r : Int} (hm : jR ra0 id = some r) : RO Tryz.prog 105 [] [.agg (k0 ra0), i6 id] (i6 r) := by
 refine aQ Tryz.func105 rfl rfl ?_
 unfold jR at hm
 refine qS [(0, .al 105002)] [(1, i6 id), (2, .ptr 105002 0)] [(105002, .cells 87 (k0 ra0))] ?_
 obtain ⟨af, h1, hm⟩ := aa hm
 refine qS [(3, hro (gC h1) yP)] [(4, i6 af)] [] ?_
 cases hm
 exact A.ret qE
theorem vK {ra0 : aZ} {r : Bool} (hm : lV ra0 = some r) : RO Tryz.prog 101 [] [.agg (k0 ra0)] (.bool r) := by
 refine aQ Tryz.func101 rfl rfl ?_
 unfold lV at hm
 refine qS [(0, .al 101001)] [(1, .ptr 101001 0)] [(101001, .cells 87 (k0 ra0))] ?_
 obtain ⟨af, h1, hm⟩ := aa hm
 refine qS [(2, hro (ic h1) wK)] [(2, .bool (!af))] [] ?_
 cases hm
 exact A.ret qE
theorem vL {l : aX} {r : Bool} (hm : jI l = some r) : RO Tryz.prog 107 [] [.agg (k1 l)] (.bool r) := by
 refine aQ Tryz.func107 rfl rfl ?_
 unfold jI at hm
 refine qS [(0, .al 107001)] [(1, .ptr 107001 0)] [(107001, .cells 78 (k1 l))] ?_
 obtain ⟨af, h1, hm⟩ := aa hm
 rcases ah hm with ⟨c1,hm⟩|⟨c1,hm⟩
 ·refine qS [(2, hro (ic h1) wK), (4, hto (bE c1))] [(2, .bool true)] [] ?_
  cases hm
  exact A.ret qE
 obtain ⟨aq, h2, hm⟩ := aa hm
 rcases ah hm with ⟨c2,hm⟩|⟨c2,hm⟩
 ·refine qS [(2, hro (ic h1) wK), (4, hto (bE c1)), (7, hro (ic h2) wK), (10, hto (bE c2))] [(2, .bool true)] [] ?_
  cases hm
  exact A.ret qE
 obtain ⟨aI, h3, hm⟩ := aa hm
 refine qS [(2, hro (ic h1) wK), (4, hto (bE c1)), (7, hro (ic h2) wK), (10, hto (bE c2)), (13, hro (ic h3) wK)] [(2, .bool (!aI))] [] ?_
 cases hm
 exact A.ret qE
theorem mW {id : Int} {c_0 : aB} {r : Bool} (hm : ir id c_0 = some r) : RO Tryz.prog 103 [] [i6 id, .dY (k2 c_0)] (.bool r) := by
 refine aQ Tryz.func103 rfl rfl ?_
 unfold ir at hm
 refine qS [] [(0, i6 id), (1, .dY (k2 c_0))] [] ?_
 obtain ⟨af, h1, hm⟩ := aa hm
 refine qS [(3, hro (eZ (jy := 105) (kZ := []) (pU := akh) (pV := fun _ _ _ h => sM h) h1) akg)] [(5, .bool af.2)] [] ?_
 refine qS [] [(3, .bool (!af.2))] [] ?_
 cases hm
 exact A.ret qE
theorem vM {l : aX} {c_0 : aB} {r : Bool} (hm : lW l c_0 = some r) : RO Tryz.prog 108 [] [.agg (k1 l), .dY [.fn 103 [.dY (k2 c_0)]]] (.bool r) := by
 refine aQ Tryz.func108 rfl rfl ?_
 unfold lW at hm
 refine qS [(0, .al 108002)] [(1, .dY [.fn 103 [.dY (k2 c_0)]]), (2, .ptr 108002 0)] [(108002, .cells 78 (k1 l))] ?_
 obtain ⟨af, h1, hm⟩ := aa hm
 rcases ah hm with ⟨c1,hm⟩|⟨c1,hm⟩
 ·refine qS [(3, hle [] (mW h1) afa), (4, hto (bE c1))] [(3, .bool true)] [] ?_
  cases hm
  exact A.ret qE
 obtain ⟨aq, h2, hm⟩ := aa hm
 refine qS [(3, hle [] (mW h1) afa), (4, hto (bE c1)), (8, hle [] (mW h2) afa)] [(3, .bool aq)] [] ?_
 cases hm
 exact A.ret qE
theorem vN {l : aX} {r : Bool} (hm : lX l = some r) : RO Tryz.prog 109 [] [.agg (k1 l)] (.bool r) := by
 refine aQ Tryz.func109 rfl rfl ?_
 unfold lX at hm
 refine qS [(0, .al 109001)] [(1, .ptr 109001 0)] [(109001, .cells 78 (k1 l))] ?_
 refine qS [] [(2, .bool (decide (l.B ≤ l.A)))] [] ?_
 cases hm
 exact A.ret qE
theorem jf {t : aB} {r : Int} (hm : gj t = some r) : RO Tryz.prog 60 [] [.agg (k2 t)] (i6 r) := by
 refine aQ Tryz.func60 rfl rfl ?_
 unfold gj at hm
 refine qS [(0, .al 60001)] [(1, .ptr 60001 0)] [(60001, .cells 44 (k2 t))] ?_
 refine A.seq ?_
 refine A.block ?_
 refine A.mid [(1, .ptr 60001 0), (6, .bool ((decide ((24:Int) < (t.aK.length:Int))) || (decide ((60:Int) < (t.Links.length:Int)))))] [(60001, .cells 44 (k2 t))] (fun hk => ?_) ?_
 ·rcases tf (decide ((24:Int) < (t.aK.length:Int))) with c1 | c1
  ·exact qS [(2, hto (lnE aS t.aK)), (4, hto (bE c1)), (10, hto (orT (q := decide ((60:Int) < (t.Links.length:Int))) c1))] _ _ hk
  exact qS [(2, hto (lnE aS t.aK)), (4, hto (bE c1)), (7, hto (lnE az t.Links)), (10, hto (orF (q := decide ((60:Int) < (t.Links.length:Int))) c1))] _ _ hk
 rcases ah hm with ⟨c2,hm⟩|⟨c2,hm⟩
 ·refine qT c2 ?_
  refine qS [] [(2, i6 3)] [] ?_
  cases hm
  exact A.ret qE
 refine qF c2 ?_
 obtain ⟨af, h1, hm⟩ := aa hm
 refine qDs [(2, hro (lq (f_g := 101) (f_c := []) (f_k := auc) (f_f := fun _ _ h => vK h) h1) aub)] [6] [(17, .bool af)] ?_
 rcases ah hm with ⟨c3,hm⟩|⟨c3,hm⟩
 ·refine qT c3 ?_
  refine qS [] [(2, i6 2)] [] ?_
  cases hm
  exact A.ret qE
 refine qF c3 ?_
 refine A.skip ?_
 show ai _ _ _ _ _
 refine A.seq ?_
 refine qDs [(2, hto (lnE aS t.aK))] [17] [(23, i6 (t.aK.length:Int)), (24, i6 0)] ?_
 refine A.block ?_
 refine A.bC 1 0 rfl rfl rfl fun hb1 => ?_
 obtain ⟨B1, K1, hB1, hK1, hm⟩ := bq hm
 refine A.lpI (l := t.aK) (j0 := 0) (B := B1) (K := K1) hm (fun j1 => fun sg => match sg with | () => [(1, .ptr 60001 0), (23, i6 (t.aK.length:Int)), (24, i6 (j1 : Int))]) (fun j1 => fun sg => match sg with | () => [(60001, .cells 44 (k2 t))]) ?_ ?_ ?_
 ·exact qW
 ·rintro j1 e1 Z1 ⟨⟩ hj1 hx1 hm
  rw [hB1] at hm
  refine qDs [] [] [(25, .bool (decide ((j1 : Int) < (t.aK.length:Int))))] ?_
  refine A.seq ?_
  refine qT (ltT hx1) ?_
  refine A.skip ?_
  show ai _ _ _ _ _
  refine A.seq ?_
  refine A.block ?_
  refine qDs [] [25] [(3, i6 (j1 : Int))] ?_
  obtain ⟨J1, hJ1, hm⟩ := bB hm
  refine A.J (J := J1) (r := r) (fun v_1 => [(1, .ptr 60001 0), (23, i6 (t.aK.length:Int)), (24, i6 (j1 : Int)), (44, .bool v_1)]) (fun v_1 => [(60001, .cells 44 (k2 t))]) ?_ ?_
  ·rcases ah hm with ⟨c4,hm⟩|⟨c4,hm⟩
   ·obtain ⟨e_1, h2, hm⟩ := aa hm
    refine qGs [(2, hto (bE c4)), (7, hix (ix aS h2)), (13, hix (ix aS (aV hx1)))] [3] [(44, .bool (decide (e1.ID ≤ e_1.ID)))] ?_
    exact qX (decide (e1.ID ≤ e_1.ID)) hm
   refine qGs [(2, hto (bE c4))] [3] [(44, .bool false)] ?_
   exact qX false hm
  rintro v_1 hm
  rw [hJ1] at hm
  rcases ah hm with ⟨c5,hm⟩|⟨c5,hm⟩
  ·refine qT c5 ?_
   refine qS [] [(2, i6 25)] [] ?_
   cases hm
   exact A.ret qE
  refine qF c5 ?_
  refine A.skip ?_
  show ai _ _ _ _ _
  refine qGs [(0, hto (inc hx1 hb1))] [24, 44] [(24, i6 ((j1 + 1 : Nat) : Int))] ?_
  exact qX () hm
 rintro j1 ⟨⟩ hj1 hl1 hm
 rw [hK1] at hm
 refine qDs [] [] [(25, .bool (decide ((j1 : Int) < (t.aK.length:Int))))] ?_
 refine A.seq ?_
 refine qF (ltF hl1) ?_
 refine A.exit ?_
 show ai _ _ _ _ _
 refine qD [(1, .al 60004)] [23, 24, 25] [(4, .ptr 60004 0)] [] [(60004, .cells 75 [.fn 103 [.ptr 60001 0]])] ?_
 refine A.seq ?_
 refine A.block ?_
 obtain ⟨aq, h3, hm⟩ := aa hm
 refine qDs [(2, hro (eP (f_g := 107) (f_c := []) (f_k := aud) (f_f := fun _ _ h => vL h) h3) afb)] [] [(47, .bool aq)] ?_
 rcases ah hm with ⟨c6,hm⟩|⟨c6,hm⟩
 ·refine qT c6 ?_
  refine qS [] [(2, i6 2)] [] ?_
  cases hm
  exact A.ret qE
 refine qF c6 ?_
 obtain ⟨aI, h4, hm⟩ := aa hm
 refine qD [(3, hle [60004, 60001] (eP (f_g := 108) (f_c := [.dY [.fn 103 [.dY (k2 t)]]]) (f_k := aue) (f_f := fun _ _ h => vM h) h4) afb)] [4, 47] [(51, .bool aI)] [60004] [] ?_
 rcases ah hm with ⟨c7,hm⟩|⟨c7,hm⟩
 ·refine qT c7 ?_
  refine qS [] [(2, i6 4)] [] ?_
  cases hm
  exact A.ret qE
 refine qF c7 ?_
 obtain ⟨bk, h5, hm⟩ := aa hm
 refine qDs [(2, hro (eP (f_g := 109) (f_c := []) (f_k := auf) (f_f := fun _ _ h => vN h) h5) afb)] [51] [(56, .bool bk)] ?_
 rcases ah hm with ⟨c8,hm⟩|⟨c8,hm⟩
 ·refine qT c8 ?_
  refine qS [] [(2, i6 8)] [] ?_
  cases hm
  exact A.ret qE
 refine qF c8 ?_
 refine A.skip ?_
 show ai _ _ _ _ _
 refine A.seq ?_
 refine qDs [(2, hto (lnE az t.Links))] [56] [(62, i6 (t.Links.length:Int)), (63, i6 0)] ?_
 refine A.block ?_
 refine A.bC 1 1 rfl rfl rfl fun hb2 => ?_
 obtain ⟨B2, K2, hB2, hK2, hm⟩ := bq hm
 refine A.lpI (l := t.Links) (j0 := 0) (B := B2) (K := K2) hm (fun j2 => fun sg => match sg with | () => [(1, .ptr 60001 0), (62, i6 (t.Links.length:Int)), (63, i6 (j2 : Int))]) (fun j2 => fun sg => match sg with | () => [(60001, .cells 44 (k2 t))]) ?_ ?_ ?_
 ·exact qW
 ·rintro j2 e2 Z2 ⟨⟩ hj2 hx2 hm
  rw [hB2] at hm
  refine qDs [] [] [(64, .bool (decide ((j2 : Int) < (t.Links.length:Int))))] ?_
  refine A.seq ?_
  refine qT (ltT hx2) ?_
  refine A.skip ?_
  show ai _ _ _ _ _
  refine A.seq ?_
  refine A.block ?_
  refine qDs [] [64] [(5, i6 (j2 : Int))] ?_
  obtain ⟨J2, hJ2, hm⟩ := bB hm
  refine A.J (J := J2) (r := r) (fun v_2 => [(1, .ptr 60001 0), (62, i6 (t.Links.length:Int)), (63, i6 (j2 : Int)), (82, .bool v_2)]) (fun v_2 => [(60001, .cells 44 (k2 t))]) ?_ ?_
  ·rcases ah hm with ⟨c9,hm⟩|⟨c9,hm⟩
   ·obtain ⟨e_2, h6, hm⟩ := aa hm
    obtain ⟨bG, h7, hm⟩ := aa hm
    refine qGs [(2, hto (bE c9)), (7, hix (ix az h6)), (12, hix (ix az (aV hx2))), (14, hro (qs h7) aki)] [5] [(82, .bool (decide ((0:Int) ≤ bG)))] ?_
    exact qX (decide ((0:Int) ≤ bG)) hm
   refine qGs [(2, hto (bE c9))] [5] [(82, .bool false)] ?_
   exact qX false hm
  rintro v_2 hm
  rw [hJ2] at hm
  rcases ah hm with ⟨c10,hm⟩|⟨c10,hm⟩
  ·refine qT c10 ?_
   refine qS [] [(2, i6 25)] [] ?_
   cases hm
   exact A.ret qE
  refine qF c10 ?_
  refine A.skip ?_
  show ai _ _ _ _ _
  refine qGs [(0, hto (inc hx2 hb2))] [63, 82] [(63, i6 ((j2 + 1 : Nat) : Int))] ?_
  exact qX () hm
 rintro j2 ⟨⟩ hj2 hl2 hm
 rw [hK2] at hm
 refine qDs [] [] [(64, .bool (decide ((j2 : Int) < (t.Links.length:Int))))] ?_
 refine A.seq ?_
 refine qF (ltF hl2) ?_
 refine A.exit ?_
 show ai _ _ _ _ _
 refine qS [] [(2, i6 0)] [] ?_
 cases hm
 exact A.ret qE
theorem gU {t : aB} {r : Bool} (hm : gm t = some r) : RO Tryz.prog 139 [] [.agg (k2 t)] (.bool r) := by
 refine aQ Tryz.func139 rfl rfl ?_
 unfold gm at hm
 refine qS [(0, .al 139001)] [(1, .ptr 139001 0)] [(139001, .cells 44 (k2 t))] ?_
 obtain ⟨af, h1, hm⟩ := aa hm
 refine qS [(1, hro (jf h1) ac3)] [(2, .bool (decide (af = (0:Int))))] [] ?_
 cases hm
 exact A.ret qE
theorem sN {t : aB} {aC : Int} {r : aZ × Bool} (hm : jS t aC = some r) : RO Tryz.prog 150 [] [.agg (k2 t), i6 aC] (.tup [.agg (k0 r.1), .bool r.2]) := by
 refine aQ Tryz.func150 rfl rfl ?_
 unfold jS at hm
 refine qS [(0, .al 150002), (1, .al 150004)] [(1, i6 aC), (2, .ptr 150002 0), (4, .ptr 150004 0)] [(150002, .cells 44 (k2 t)), (150004, .cells 87 [i6 0, .bool false])] ?_
 obtain ⟨af, h1, hm⟩ := aa hm
 refine qDs [(3, hro (eZ (jy := 105) (kZ := []) (pU := akh) (pV := fun _ _ _ h => sM h) h1) akg)] [1] [(6, i6 af.1), (7, .bool af.2)] ?_
 refine A.seq ?_
 refine qDs [] [7] [(16, .bool (!af.2))] ?_
 rcases ah hm with ⟨c1,hm⟩|⟨c1,hm⟩
 ·refine qT c1 ?_
  refine qD [] [2, 6, 16] [(5, .bool false)] [150002] [] ?_
  cases hm
  exact A.ret qE
 refine qF c1 ?_
 refine A.skip ?_
 show ai _ _ _ _ _
 obtain ⟨e_1, h2, hm⟩ := aa hm
 refine qS [(3, hix (ix aS h2))] [(4, .ptr 150004 0), (5, .bool true)] [(150004, .cells 87 (k0 e_1))] ?_
 cases hm
 exact A.ret qE
theorem gN {t : aB} {aC : Int} {r : Bool} (hm : iu t aC = some r) : RO Tryz.prog 121 [] [.agg (k2 t), i6 aC] (.bool r) := by
 refine aQ Tryz.func121 rfl rfl ?_
 unfold iu at hm
 refine qS [(0, .al 121002)] [(1, i6 aC), (2, .ptr 121002 0)] [(121002, .cells 44 (k2 t))] ?_
 obtain ⟨af, h1, hm⟩ := aa hm
 refine qDs [(2, hro (sN h1) akm), (6, .al 121005)] [1] [(6, .bool af.2)] ?_
 obtain ⟨aq, h2, hm⟩ := aa hm
 rcases ah hm with ⟨c1,hm⟩|⟨c1,hm⟩
 ·refine qS [(1, hro (gU h2) yQ), (2, hto (bE c1))] [(4, .bool af.2)] [] ?_
  cases hm
  exact A.ret qE
 refine qS [(1, hro (gU h2) yQ), (2, hto (bE c1))] [(4, .bool false)] [] ?_
 cases hm
 exact A.ret qE
theorem vO {t : aB} {aC : Int} {r : Bool} (hm : jJ t aC = some r) : RO Tryz.prog 149 [] [.agg (k2 t), i6 aC] (.bool r) := by
 refine aQ Tryz.func149 rfl rfl ?_
 unfold jJ at hm
 refine qS [(0, .al 149002)] [(1, i6 aC), (2, .ptr 149002 0)] [(149002, .cells 44 (k2 t))] ?_
 obtain ⟨af, h1, hm⟩ := aa hm
 refine qD [(2, hro (sN h1) akm), (6, .al 149005)] [1] [(5, .ptr 149005 0)] [] [(149005, .cells 87 (k0 af.1))] ?_
 obtain ⟨aq, h2, hm⟩ := aa hm
 rcases ah hm with ⟨c1,hm⟩|⟨c1,hm⟩
 ·refine qS [(1, hro (gU h2) yQ), (2, hto (bE c1))] [(4, .bool af.1.bh)] [] ?_
  cases hm
  exact A.ret qE
 refine qS [(1, hro (gU h2) yQ), (2, hto (bE c1))] [(4, .bool false)] [] ?_
 cases hm
 exact A.ret qE
theorem xT {t : aB} {ez : Int} {jG : Int} {r : Int × Bool} (hm : rB t ez jG = some r) : RO Tryz.prog 89 [] [.agg (k2 t), i6 ez, i6 jG] (.tup [i6 r.1, .bool r.2]) := by
 refine aQ Tryz.func89 rfl rfl ?_
 unfold rB at hm
 refine qS [(0, .al 89003)] [(1, i6 ez), (2, i6 jG), (3, .ptr 89003 0)] [(89003, .cells 44 (k2 t))] ?_
 refine A.seq ?_
 obtain ⟨af, h1, hm⟩ := aa hm
 refine qDs [(1, hro (gU h1) yQ)] [] [(12, .bool (!af))] ?_
 rcases ah hm with ⟨c1,hm⟩|⟨c1,hm⟩
 ·refine qT c1 ?_
  refine qS [] [(6, i6 0), (7, .bool false)] [] ?_
  cases hm
  exact A.ret qE
 refine qF c1 ?_
 refine A.skip ?_
 show ai _ _ _ _ _
 obtain ⟨aq, h2, hm⟩ := aa hm
 refine qDs [(9, hro (jm (jy := 110) (kZ := []) (pU := aki) (pV := fun _ _ _ h => qs h) h2) auv)] [12] [(8, i6 aq.1), (9, .bool aq.2)] ?_
 refine A.seq ?_
 refine A.block ?_
 refine qDs [] [9] [(26, .bool (!aq.2))] ?_
 rcases ah hm with ⟨c2,hm⟩|⟨c2,hm⟩
 ·refine qT c2 ?_
  refine qS [] [(6, i6 0), (7, .bool false)] [] ?_
  cases hm
  exact A.ret qE
 refine qF c2 ?_
 refine qDs [] [1, 2, 26] [(29, .bool (decide (ez < jG)))] ?_
 rcases ah hm with ⟨c3,hm⟩|⟨c3,hm⟩
 ·refine qT c3 ?_
  obtain ⟨e_1, h3, hm⟩ := aa hm
  refine qS [(3, hix (ix az h3))] [(6, i6 e_1.jx), (7, .bool true)] [] ?_
  cases hm
  exact A.ret qE
 refine qF c3 ?_
 refine A.skip ?_
 show ai _ _ _ _ _
 obtain ⟨e_2, h4, hm⟩ := aa hm
 refine qS [(3, hix (ix az h4))] [(6, i6 e_2.jc), (7, .bool true)] [] ?_
 cases hm
 exact A.ret qE
end Go.Proofs.YtpmifmdidfgpdaaGreat
