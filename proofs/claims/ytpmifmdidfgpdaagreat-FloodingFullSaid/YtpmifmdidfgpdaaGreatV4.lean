/- The eM of ct of the program. No condition but bU bB stand in each. -/
import Derived.Test.YtpmifmdidfgpdaaGreatDA
namespace Go.Proofs.YtpmifmdidfgpdaaGreat
open Go
set_option maxRecDepth 100000
set_option linter.all false
theorem sG {xa0 : Int} {r : Bool} (hm : lK xa0 = some r) : RO Tryz.prog 162 [] [i6 xa0] (.bool r) := by
 refine aR Tryz.func162 rfl rfl ?_
 unfold lK at hm
 refine qS [] [(0, i6 xa0)] [] ?_
 refine qS [] [(2, .bool (!decide (xa0 = xa0)))] [] ?_
 cases hm
 exact A.ret qE
theorem gw {xa0 : Int} {y : Int} {r : Int} (hm : ee xa0 y = some r) : RO Tryz.prog 134 [] [i6 xa0, i6 y] (i6 r) := by
 refine aR Tryz.func134 rfl rfl ?_
 unfold ee at hm
 refine qS [] [(0, i6 xa0), (1, i6 y)] [] ?_
 obtain ⟨af, h1, hm⟩ := aa hm
 refine qDs [(1, hro (sG h1) ajL)] [] [(5, .bool af)] ?_
 obtain ⟨ay, h2, hm⟩ := aa hm
 refine qDs [(1, hro (sG h2) ajL)] [] [(6, .bool ay)] ?_
 refine A.seq ?_
 refine qDs [] [5] [(11, .bool af)] ?_
 rcases ah hm with ⟨c1,hm⟩|⟨c1,hm⟩
 ·refine qT c1 ?_
  refine A.seq ?_
  refine qS [] [(12, .bool ay)] [] ?_
  rcases ah hm with ⟨c2,hm⟩|⟨c2,hm⟩
  ·refine qT c2 ?_
   refine qS [] [(4, i6 0)] [] ?_
   cases hm
   exact A.ret qE
  refine qF c2 ?_
  refine A.skip ?_
  show ai _ _ _ _ _
  refine qS [] [(4, i6 (-1))] [] ?_
  cases hm
  exact A.ret qE
 refine qF c1 ?_
 refine A.skip ?_
 show ai _ _ _ _ _
 refine A.seq ?_
 refine qDs [] [6, 11] [(13, .bool ay)] ?_
 rcases ah hm with ⟨c3,hm⟩|⟨c3,hm⟩
 ·refine qT c3 ?_
  refine qS [] [(4, i6 1)] [] ?_
  cases hm
  exact A.ret qE
 refine qF c3 ?_
 refine A.skip ?_
 show ai _ _ _ _ _
 refine A.seq ?_
 refine qDs [] [13] [(16, .bool (decide (xa0 < y)))] ?_
 rcases ah hm with ⟨c4,hm⟩|⟨c4,hm⟩
 ·refine qT c4 ?_
  refine qS [] [(4, i6 (-1))] [] ?_
  cases hm
  exact A.ret qE
 refine qF c4 ?_
 refine A.skip ?_
 show ai _ _ _ _ _
 refine A.seq ?_
 refine qS [] [(19, .bool (decide (y < xa0)))] [] ?_
 rcases ah hm with ⟨c5,hm⟩|⟨c5,hm⟩
 ·refine qT c5 ?_
  refine qS [] [(4, i6 1)] [] ?_
  cases hm
  exact A.ret qE
 refine qF c5 ?_
 refine A.skip ?_
 show ai _ _ _ _ _
 refine qS [] [(4, i6 0)] [] ?_
 cases hm
 exact A.ret qE
theorem uS {vals : List Int} {r : Int} (hm : mE vals = some r) : RO Tryz.prog 133 [] [lf bJ vals] (i6 r) := by
 refine aR Tryz.func133 rfl rfl ?_
 unfold mE at hm
 refine qS [] [(0, lf bJ vals)] [] ?_
 refine qDs [] [] [(3, i6 0)] ?_
 refine A.seq ?_
 refine qDs [(1, hto (lnE bJ vals))] [0] [(6, lf bJ vals), (7, i6 (vals.length:Int)), (8, i6 0)] ?_
 refine A.block ?_
 refine A.bS 6 rfl fun hb1 => ?_
 obtain ⟨B1, K1, hB1, hK1, hm⟩ := bt hm
 refine A.lpI (l := vals) (j0 := 0) (B := B1) (K := K1) hm (fun j1 => fun sg => match sg with | () => [(3, i6 0), (6, lf bJ vals), (7, i6 (vals.length:Int)), (8, i6 (j1 : Int))]) (fun j1 => fun sg => match sg with | () => []) ?_ ?_ ?_
 ·exact qW
 ·rintro j1 e1 Z1 ⟨⟩ hj1 hx1 hm
  rw [hB1] at hm
  refine qDs [] [] [(9, .bool (decide ((j1 : Int) < (vals.length:Int))))] ?_
  refine A.seq ?_
  refine qT (ltT hx1) ?_
  refine A.skip ?_
  show ai _ _ _ _ _
  refine A.seq ?_
  refine A.block ?_
  refine qDs [(0, hix (ix bJ (bf hx1)))] [9] [(5, i6 e1)] ?_
  refine qDs [] [] [(14, .bool (!decide (e1 = (0:Int))))] ?_
  rcases ah hm with ⟨c1,hm⟩|⟨c1,hm⟩
  ·refine qT c1 ?_
   refine qS [] [(2, i6 e1)] [] ?_
   cases hm
   exact A.ret qE
  refine qF c1 ?_
  refine A.skip ?_
  show ai _ _ _ _ _
  refine qGs [(0, hto (inc hx1 hb1))] [8, 5, 14] [(8, i6 ((j1 + 1 : Nat) : Int))] ?_
  exact qX () hm
 rintro j1 ⟨⟩ hj1 hl1 hm
 rw [hK1] at hm
 refine qDs [] [] [(9, .bool (decide ((j1 : Int) < (vals.length:Int))))] ?_
 refine A.seq ?_
 refine qF (ltF hl1) ?_
 refine A.exit ?_
 show ai _ _ _ _ _
 refine qS [] [(2, i6 0)] [] ?_
 cases hm
 exact A.ret qE
theorem eR {xa0 : List aX} {target : Int} {cmp : aX → Int → Option Int} {jj : Nat} {kR : List AV} (pV : aM Tryz.prog jj) (pW : ∀ (y0 : aX) (y1 : Int) (q : Int), cmp y0 y1 = some q → RO Tryz.prog jj [] ([.agg (k0 y0), i6 y1] ++ kR) (i6 q)) {r : Int × Bool} (hm : cn xa0 target cmp = some r) : RO Tryz.prog 104 [] [lf aU xa0, i6 target, .cfn jj kR] (.tup [i6 r.1, .bool r.2]) := by
 refine aR Tryz.func104 rfl rfl ?_
 unfold cn at hm
 refine qS [] [(0, lf aU xa0), (1, i6 target), (2, .cfn jj kR)] [] ?_
 refine qDs [(1, hto (lnE aU xa0))] [] [(8, i6 (xa0.length:Int))] ?_
 refine qDs [] [] [(9, i6 0), (10, i6 (xa0.length:Int))] ?_
 refine A.seq ?_
 refine A.block ?_
 obtain ⟨F1, n1, hF1, hm⟩ := fZ hm
 refine A.lpW (F := F1) hm (fun sg => match sg with | (i_1, j_1) => [(0, lf aU xa0), (1, i6 target), (2, .cfn jj kR), (8, i6 (xa0.length:Int)), (9, i6 i_1), (10, i6 j_1)]) (fun sg => match sg with | (i_1, j_1) => []) ?_ ?_
 ·exact qW
 rintro Z1 ⟨i_1, j_1⟩ hm
 rw [hF1] at hm
 refine A.seq ?_
 refine qDs [] [] [(17, .bool (decide (i_1 < j_1)))] ?_
 rcases ah hm with ⟨c1,hm⟩|⟨c1,hm⟩
 ·refine qT c1 ?_
  refine A.skip ?_
  show ai _ _ _ _ _
  refine A.block ?_
  refine qDs [(4, .sh (1:Int) (by decide))] [17] [(11, i6 (w64 (Int.fdiv (IntKind.wrap .u64 (w64 (i_1 + j_1))) (2 ^ min (1:Int).toNat 64))))] ?_
  obtain ⟨e_1, h1, hm⟩ := aa hm
  obtain ⟨af, h2, hm⟩ := aa hm
  refine qDs [(3, hix (ix aU h1)), (6, hrf (pW _ _ _ h2) pV)] [] [(31, .bool (decide (af < (0:Int))))] ?_
  rcases ah hm with ⟨c2,hm⟩|⟨c2,hm⟩
  ·refine qT c2 ?_
   refine qGs [] [9, 11, 31] [(9, i6 (w64 ((w64 (Int.fdiv (IntKind.wrap .u64 (w64 (i_1 + j_1))) (2 ^ min (1:Int).toNat 64))) + (1:Int))))] ?_
   exact qX (w64 ((w64 (Int.fdiv (IntKind.wrap .u64 (w64 (i_1 + j_1))) (2 ^ min (1:Int).toNat 64))) + (1:Int)), j_1) hm
  refine qF c2 ?_
  refine qGs [] [10, 11, 31] [(10, i6 (w64 (Int.fdiv (IntKind.wrap .u64 (w64 (i_1 + j_1))) (2 ^ min (1:Int).toNat 64))))] ?_
  exact qX (i_1, w64 (Int.fdiv (IntKind.wrap .u64 (w64 (i_1 + j_1))) (2 ^ min (1:Int).toNat 64))) hm
 refine qF c1 ?_
 refine A.exit ?_
 show ai _ _ _ _ _
 rcases ah hm with ⟨c3,hm⟩|⟨c3,hm⟩
 ·obtain ⟨e_2, h3, hm⟩ := aa hm
  obtain ⟨ay, h4, hm⟩ := aa hm
  refine qS [(4, hto (bE c3)), (8, hix (ix aU h3)), (11, hrf (pW _ _ _ h4) pV)] [(6, i6 i_1), (7, .bool (decide (ay = (0:Int))))] [] ?_
  cases hm
  exact A.ret qE
 refine qS [(4, hto (bE c3))] [(6, i6 i_1), (7, .bool false)] [] ?_
 cases hm
 exact A.ret qE
theorem nt {sa0 : List aZ} {f : aZ → Option Bool} {f_g : Nat} {f_c : List AV} (f_k : aM Tryz.prog f_g) (f_f : ∀ (y0 : aZ) (q : Bool), f y0 = some q → RO Tryz.prog f_g [] ([.agg (k8 y0)] ++ f_c) (.bool q)) {r : Int} (hm : ei sa0 f = some r) : RO Tryz.prog 115 [] [lf aN sa0, .cfn f_g f_c] (i6 r) := by
 refine aR Tryz.func115 rfl rfl ?_
 unfold ei at hm
 refine qS [] [(0, lf aN sa0), (1, .cfn f_g f_c)] [] ?_
 refine A.seq ?_
 refine qDs [(1, hto (lnE aN sa0))] [] [(7, i6 (sa0.length:Int)), (8, i6 0)] ?_
 refine A.block ?_
 refine A.bS 0 rfl fun hb1 => ?_
 obtain ⟨B1, K1, hB1, hK1, hm⟩ := bt hm
 refine A.lpI (l := sa0) (j0 := 0) (B := B1) (K := K1) hm (fun j1 => fun sg => match sg with | () => [(0, lf aN sa0), (1, .cfn f_g f_c), (7, i6 (sa0.length:Int)), (8, i6 (j1 : Int))]) (fun j1 => fun sg => match sg with | () => []) ?_ ?_ ?_
 ·exact qW
 ·rintro j1 e1 Z1 ⟨⟩ hj1 hx1 hm
  rw [hB1] at hm
  refine qDs [] [] [(9, .bool (decide ((j1 : Int) < (sa0.length:Int))))] ?_
  refine A.seq ?_
  refine qT (ltT hx1) ?_
  refine A.skip ?_
  show ai _ _ _ _ _
  refine A.seq ?_
  refine A.block ?_
  refine qDs [] [9] [(5, i6 (j1 : Int))] ?_
  obtain ⟨af, h1, hm⟩ := aa hm
  refine qDs [(3, hix (ix aN (bf hx1))), (5, hrf (f_f _ _ h1) f_k)] [] [(16, .bool af)] ?_
  rcases ah hm with ⟨c1,hm⟩|⟨c1,hm⟩
  ·refine qT c1 ?_
   refine qS [] [(4, i6 (j1 : Int))] [] ?_
   cases hm
   exact A.ret qE
  refine qF c1 ?_
  refine A.skip ?_
  show ai _ _ _ _ _
  refine qGs [(0, hto (inc hx1 hb1))] [8, 5, 16] [(8, i6 ((j1 + 1 : Nat) : Int))] ?_
  exact qX () hm
 rintro j1 ⟨⟩ hj1 hl1 hm
 rw [hK1] at hm
 refine qDs [] [] [(9, .bool (decide ((j1 : Int) < (sa0.length:Int))))] ?_
 refine A.seq ?_
 refine qF (ltF hl1) ?_
 refine A.exit ?_
 show ai _ _ _ _ _
 refine qS [] [(4, i6 (-1))] [] ?_
 cases hm
 exact A.ret qE
theorem ja {xa0 : List aT} {target : aT} {cmp : aT → aT → Option Int} {jj : Nat} {kR : List AV} (pV : aM Tryz.prog jj) (pW : ∀ (y0 : aT) (y1 : aT) (q : Int), cmp y0 y1 = some q → RO Tryz.prog jj [] ([.agg (k1 y0), .agg (k1 y1)] ++ kR) (i6 q)) {r : Int × Bool} (hm : cA xa0 target cmp = some r) : RO Tryz.prog 140 [] [lf aA xa0, .agg (k1 target), .cfn jj kR] (.tup [i6 r.1, .bool r.2]) := by
 refine aR Tryz.func140 rfl rfl ?_
 unfold cA at hm
 refine qS [(0, .al 140004)] [(0, lf aA xa0), (2, .cfn jj kR), (4, .ptr 140004 0)] [(140004, .cells 78 (k1 target))] ?_
 refine qDs [(1, hto (lnE aA xa0))] [] [(8, i6 (xa0.length:Int))] ?_
 refine qDs [] [] [(9, i6 0), (10, i6 (xa0.length:Int))] ?_
 refine A.seq ?_
 refine A.block ?_
 obtain ⟨F1, n1, hF1, hm⟩ := fZ hm
 refine A.lpW (F := F1) hm (fun sg => match sg with | (i_1, j_1) => [(0, lf aA xa0), (2, .cfn jj kR), (4, .ptr 140004 0), (8, i6 (xa0.length:Int)), (9, i6 i_1), (10, i6 j_1)]) (fun sg => match sg with | (i_1, j_1) => [(140004, .cells 78 (k1 target))]) ?_ ?_
 ·exact qW
 rintro Z1 ⟨i_1, j_1⟩ hm
 rw [hF1] at hm
 refine A.seq ?_
 refine qDs [] [] [(17, .bool (decide (i_1 < j_1)))] ?_
 rcases ah hm with ⟨c1,hm⟩|⟨c1,hm⟩
 ·refine qT c1 ?_
  refine A.skip ?_
  show ai _ _ _ _ _
  refine A.block ?_
  refine qDs [(4, .sh (1:Int) (by decide))] [17] [(11, i6 (w64 (Int.fdiv (IntKind.wrap .u64 (w64 (i_1 + j_1))) (2 ^ min (1:Int).toNat 64))))] ?_
  obtain ⟨e_1, h1, hm⟩ := aa hm
  obtain ⟨af, h2, hm⟩ := aa hm
  refine qDs [(3, hix (ix aA h1)), (6, hrf (pW _ _ _ h2) pV)] [] [(31, .bool (decide (af < (0:Int))))] ?_
  rcases ah hm with ⟨c2,hm⟩|⟨c2,hm⟩
  ·refine qT c2 ?_
   refine qGs [] [9, 11, 31] [(9, i6 (w64 ((w64 (Int.fdiv (IntKind.wrap .u64 (w64 (i_1 + j_1))) (2 ^ min (1:Int).toNat 64))) + (1:Int))))] ?_
   exact qX (w64 ((w64 (Int.fdiv (IntKind.wrap .u64 (w64 (i_1 + j_1))) (2 ^ min (1:Int).toNat 64))) + (1:Int)), j_1) hm
  refine qF c2 ?_
  refine qGs [] [10, 11, 31] [(10, i6 (w64 (Int.fdiv (IntKind.wrap .u64 (w64 (i_1 + j_1))) (2 ^ min (1:Int).toNat 64))))] ?_
  exact qX (i_1, w64 (Int.fdiv (IntKind.wrap .u64 (w64 (i_1 + j_1))) (2 ^ min (1:Int).toNat 64))) hm
 refine qF c1 ?_
 refine A.exit ?_
 show ai _ _ _ _ _
 rcases ah hm with ⟨c3,hm⟩|⟨c3,hm⟩
 ·obtain ⟨e_2, h3, hm⟩ := aa hm
  obtain ⟨ay, h4, hm⟩ := aa hm
  refine qS [(4, hto (bE c3)), (8, hix (ix aA h3)), (11, hrf (pW _ _ _ h4) pV)] [(6, i6 i_1), (7, .bool (decide (ay = (0:Int))))] [] ?_
  cases hm
  exact A.ret qE
 refine qS [(4, hto (bE c3))] [(6, i6 i_1), (7, .bool false)] [] ?_
 cases hm
 exact A.ret qE
theorem l6 {sa0 : List aX} {f : aX → Option Bool} {f_g : Nat} {f_c : List AV} (f_k : aM Tryz.prog f_g) (f_f : ∀ (y0 : aX) (q : Bool), f y0 = some q → RO Tryz.prog f_g [] ([.agg (k0 y0)] ++ f_c) (.bool q)) {r : Int} (hm : dQ sa0 f = some r) : RO Tryz.prog 146 [] [lf aU sa0, .cfn f_g f_c] (i6 r) := by
 refine aR Tryz.func146 rfl rfl ?_
 unfold dQ at hm
 refine qS [] [(0, lf aU sa0), (1, .cfn f_g f_c)] [] ?_
 refine A.seq ?_
 refine qDs [(1, hto (lnE aU sa0))] [] [(7, i6 (sa0.length:Int)), (8, i6 0)] ?_
 refine A.block ?_
 refine A.bS 0 rfl fun hb1 => ?_
 obtain ⟨B1, K1, hB1, hK1, hm⟩ := bt hm
 refine A.lpI (l := sa0) (j0 := 0) (B := B1) (K := K1) hm (fun j1 => fun sg => match sg with | () => [(0, lf aU sa0), (1, .cfn f_g f_c), (7, i6 (sa0.length:Int)), (8, i6 (j1 : Int))]) (fun j1 => fun sg => match sg with | () => []) ?_ ?_ ?_
 ·exact qW
 ·rintro j1 e1 Z1 ⟨⟩ hj1 hx1 hm
  rw [hB1] at hm
  refine qDs [] [] [(9, .bool (decide ((j1 : Int) < (sa0.length:Int))))] ?_
  refine A.seq ?_
  refine qT (ltT hx1) ?_
  refine A.skip ?_
  show ai _ _ _ _ _
  refine A.seq ?_
  refine A.block ?_
  refine qDs [] [9] [(5, i6 (j1 : Int))] ?_
  obtain ⟨af, h1, hm⟩ := aa hm
  refine qDs [(3, hix (ix aU (bf hx1))), (5, hrf (f_f _ _ h1) f_k)] [] [(16, .bool af)] ?_
  rcases ah hm with ⟨c1,hm⟩|⟨c1,hm⟩
  ·refine qT c1 ?_
   refine qS [] [(4, i6 (j1 : Int))] [] ?_
   cases hm
   exact A.ret qE
  refine qF c1 ?_
  refine A.skip ?_
  show ai _ _ _ _ _
  refine qGs [(0, hto (inc hx1 hb1))] [8, 5, 16] [(8, i6 ((j1 + 1 : Nat) : Int))] ?_
  exact qX () hm
 rintro j1 ⟨⟩ hj1 hl1 hm
 rw [hK1] at hm
 refine qDs [] [] [(9, .bool (decide ((j1 : Int) < (sa0.length:Int))))] ?_
 refine A.seq ?_
 refine qF (ltF hl1) ?_
 refine A.exit ?_
 show ai _ _ _ _ _
 refine qS [] [(4, i6 (-1))] [] ?_
 cases hm
 exact A.ret qE
theorem nu {sa0 : List aT} {f : aT → Option Bool} {f_g : Nat} {f_c : List AV} (f_k : aM Tryz.prog f_g) (f_f : ∀ (y0 : aT) (q : Bool), f y0 = some q → RO Tryz.prog f_g [] ([.agg (k1 y0)] ++ f_c) (.bool q)) {r : Int} (hm : en sa0 f = some r) : RO Tryz.prog 147 [] [lf aA sa0, .cfn f_g f_c] (i6 r) := by
 refine aR Tryz.func147 rfl rfl ?_
 unfold en at hm
 refine qS [] [(0, lf aA sa0), (1, .cfn f_g f_c)] [] ?_
 refine A.seq ?_
 refine qDs [(1, hto (lnE aA sa0))] [] [(7, i6 (sa0.length:Int)), (8, i6 0)] ?_
 refine A.block ?_
 refine A.bS 0 rfl fun hb1 => ?_
 obtain ⟨B1, K1, hB1, hK1, hm⟩ := bt hm
 refine A.lpI (l := sa0) (j0 := 0) (B := B1) (K := K1) hm (fun j1 => fun sg => match sg with | () => [(0, lf aA sa0), (1, .cfn f_g f_c), (7, i6 (sa0.length:Int)), (8, i6 (j1 : Int))]) (fun j1 => fun sg => match sg with | () => []) ?_ ?_ ?_
 ·exact qW
 ·rintro j1 e1 Z1 ⟨⟩ hj1 hx1 hm
  rw [hB1] at hm
  refine qDs [] [] [(9, .bool (decide ((j1 : Int) < (sa0.length:Int))))] ?_
  refine A.seq ?_
  refine qT (ltT hx1) ?_
  refine A.skip ?_
  show ai _ _ _ _ _
  refine A.seq ?_
  refine A.block ?_
  refine qDs [] [9] [(5, i6 (j1 : Int))] ?_
  obtain ⟨af, h1, hm⟩ := aa hm
  refine qDs [(3, hix (ix aA (bf hx1))), (5, hrf (f_f _ _ h1) f_k)] [] [(16, .bool af)] ?_
  rcases ah hm with ⟨c1,hm⟩|⟨c1,hm⟩
  ·refine qT c1 ?_
   refine qS [] [(4, i6 (j1 : Int))] [] ?_
   cases hm
   exact A.ret qE
  refine qF c1 ?_
  refine A.skip ?_
  show ai _ _ _ _ _
  refine qGs [(0, hto (inc hx1 hb1))] [8, 5, 16] [(8, i6 ((j1 + 1 : Nat) : Int))] ?_
  exact qX () hm
 rintro j1 ⟨⟩ hj1 hl1 hm
 rw [hK1] at hm
 refine qDs [] [] [(9, .bool (decide ((j1 : Int) < (sa0.length:Int))))] ?_
 refine A.seq ?_
 refine qF (ltF hl1) ?_
 refine A.exit ?_
 show ai _ _ _ _ _
 refine qS [] [(4, i6 (-1))] [] ?_
 cases hm
 exact A.ret qE
theorem l7 {sa0 : List ak} {f : ak → Option Bool} {f_g : Nat} {f_c : List AV} (f_k : aM Tryz.prog f_g) (f_f : ∀ (y0 : ak) (q : Bool), f y0 = some q → RO Tryz.prog f_g [] ([.agg (k6 y0)] ++ f_c) (.bool q)) {r : Int} (hm : dR sa0 f = some r) : RO Tryz.prog 148 [] [lf aI sa0, .cfn f_g f_c] (i6 r) := by
 refine aR Tryz.func148 rfl rfl ?_
 unfold dR at hm
 refine qS [] [(0, lf aI sa0), (1, .cfn f_g f_c)] [] ?_
 refine A.seq ?_
 refine qDs [(1, hto (lnE aI sa0))] [] [(7, i6 (sa0.length:Int)), (8, i6 0)] ?_
 refine A.block ?_
 refine A.bS 0 rfl fun hb1 => ?_
 obtain ⟨B1, K1, hB1, hK1, hm⟩ := bt hm
 refine A.lpI (l := sa0) (j0 := 0) (B := B1) (K := K1) hm (fun j1 => fun sg => match sg with | () => [(0, lf aI sa0), (1, .cfn f_g f_c), (7, i6 (sa0.length:Int)), (8, i6 (j1 : Int))]) (fun j1 => fun sg => match sg with | () => []) ?_ ?_ ?_
 ·exact qW
 ·rintro j1 e1 Z1 ⟨⟩ hj1 hx1 hm
  rw [hB1] at hm
  refine qDs [] [] [(9, .bool (decide ((j1 : Int) < (sa0.length:Int))))] ?_
  refine A.seq ?_
  refine qT (ltT hx1) ?_
  refine A.skip ?_
  show ai _ _ _ _ _
  refine A.seq ?_
  refine A.block ?_
  refine qDs [] [9] [(5, i6 (j1 : Int))] ?_
  obtain ⟨af, h1, hm⟩ := aa hm
  refine qDs [(3, hix (ix aI (bf hx1))), (5, hrf (f_f _ _ h1) f_k)] [] [(16, .bool af)] ?_
  rcases ah hm with ⟨c1,hm⟩|⟨c1,hm⟩
  ·refine qT c1 ?_
   refine qS [] [(4, i6 (j1 : Int))] [] ?_
   cases hm
   exact A.ret qE
  refine qF c1 ?_
  refine A.skip ?_
  show ai _ _ _ _ _
  refine qGs [(0, hto (inc hx1 hb1))] [8, 5, 16] [(8, i6 ((j1 + 1 : Nat) : Int))] ?_
  exact qX () hm
 rintro j1 ⟨⟩ hj1 hl1 hm
 rw [hK1] at hm
 refine qDs [] [] [(9, .bool (decide ((j1 : Int) < (sa0.length:Int))))] ?_
 refine A.seq ?_
 refine qF (ltF hl1) ?_
 refine A.exit ?_
 show ai _ _ _ _ _
 refine qS [] [(4, i6 (-1))] [] ?_
 cases hm
 exact A.ret qE
theorem tc {sa0 : List Int} {v : Int} {r : Int} (hm : kZ sa0 v = some r) : RO Tryz.prog 151 [] [lf bJ sa0, i6 v] (i6 r) := by
 refine aR Tryz.func151 rfl rfl ?_
 unfold kZ at hm
 refine qS [] [(0, lf bJ sa0), (1, i6 v)] [] ?_
 refine A.seq ?_
 refine qDs [(1, hto (lnE bJ sa0))] [] [(7, i6 (sa0.length:Int)), (8, i6 0)] ?_
 refine A.block ?_
 refine A.bS 0 rfl fun hb1 => ?_
 obtain ⟨B1, K1, hB1, hK1, hm⟩ := bt hm
 refine A.lpI (l := sa0) (j0 := 0) (B := B1) (K := K1) hm (fun j1 => fun sg => match sg with | () => [(0, lf bJ sa0), (1, i6 v), (7, i6 (sa0.length:Int)), (8, i6 (j1 : Int))]) (fun j1 => fun sg => match sg with | () => []) ?_ ?_ ?_
 ·exact qW
 ·rintro j1 e1 Z1 ⟨⟩ hj1 hx1 hm
  rw [hB1] at hm
  refine qDs [] [] [(9, .bool (decide ((j1 : Int) < (sa0.length:Int))))] ?_
  refine A.seq ?_
  refine qT (ltT hx1) ?_
  refine A.skip ?_
  show ai _ _ _ _ _
  refine A.seq ?_
  refine A.block ?_
  refine qDs [] [9] [(5, i6 (j1 : Int))] ?_
  refine qDs [(3, hix (ix bJ (bf hx1)))] [] [(16, .bool (decide (v = e1)))] ?_
  rcases ah hm with ⟨c1,hm⟩|⟨c1,hm⟩
  ·refine qT c1 ?_
   refine qS [] [(4, i6 (j1 : Int))] [] ?_
   cases hm
   exact A.ret qE
  refine qF c1 ?_
  refine A.skip ?_
  show ai _ _ _ _ _
  refine qGs [(0, hto (inc hx1 hb1))] [8, 5, 16] [(8, i6 ((j1 + 1 : Nat) : Int))] ?_
  exact qX () hm
 rintro j1 ⟨⟩ hj1 hl1 hm
 rw [hK1] at hm
 refine qDs [] [] [(9, .bool (decide ((j1 : Int) < (sa0.length:Int))))] ?_
 refine A.seq ?_
 refine qF (ltF hl1) ?_
 refine A.exit ?_
 show ai _ _ _ _ _
 refine qS [] [(4, i6 (-1))] [] ?_
 cases hm
 exact A.ret qE
theorem mF {sa0 : List gb} {f : gb → Option Bool} {f_g : Nat} {f_c : List AV} (f_k : aM Tryz.prog f_g) (f_f : ∀ (y0 : gb) (q : Bool), f y0 = some q → RO Tryz.prog f_g [] ([.agg (k10 y0)] ++ f_c) (.bool q)) {r : Int} (hm : fm sa0 f = some r) : RO Tryz.prog 161 [] [lf ec sa0, .cfn f_g f_c] (i6 r) := by
 refine aR Tryz.func161 rfl rfl ?_
 unfold fm at hm
 refine qS [] [(0, lf ec sa0), (1, .cfn f_g f_c)] [] ?_
 refine A.seq ?_
 refine qDs [(1, hto (lnE ec sa0))] [] [(7, i6 (sa0.length:Int)), (8, i6 0)] ?_
 refine A.block ?_
 refine A.bS 0 rfl fun hb1 => ?_
 obtain ⟨B1, K1, hB1, hK1, hm⟩ := bt hm
 refine A.lpI (l := sa0) (j0 := 0) (B := B1) (K := K1) hm (fun j1 => fun sg => match sg with | () => [(0, lf ec sa0), (1, .cfn f_g f_c), (7, i6 (sa0.length:Int)), (8, i6 (j1 : Int))]) (fun j1 => fun sg => match sg with | () => []) ?_ ?_ ?_
 ·exact qW
 ·rintro j1 e1 Z1 ⟨⟩ hj1 hx1 hm
  rw [hB1] at hm
  refine qDs [] [] [(9, .bool (decide ((j1 : Int) < (sa0.length:Int))))] ?_
  refine A.seq ?_
  refine qT (ltT hx1) ?_
  refine A.skip ?_
  show ai _ _ _ _ _
  refine A.seq ?_
  refine A.block ?_
  refine qDs [] [9] [(5, i6 (j1 : Int))] ?_
  obtain ⟨af, h1, hm⟩ := aa hm
  refine qDs [(3, hix (ix ec (bf hx1))), (5, hrf (f_f _ _ h1) f_k)] [] [(16, .bool af)] ?_
  rcases ah hm with ⟨c1,hm⟩|⟨c1,hm⟩
  ·refine qT c1 ?_
   refine qS [] [(4, i6 (j1 : Int))] [] ?_
   cases hm
   exact A.ret qE
  refine qF c1 ?_
  refine A.skip ?_
  show ai _ _ _ _ _
  refine qGs [(0, hto (inc hx1 hb1))] [8, 5, 16] [(8, i6 ((j1 + 1 : Nat) : Int))] ?_
  exact qX () hm
 rintro j1 ⟨⟩ hj1 hl1 hm
 rw [hK1] at hm
 refine qDs [] [] [(9, .bool (decide ((j1 : Int) < (sa0.length:Int))))] ?_
 refine A.seq ?_
 refine qF (ltF hl1) ?_
 refine A.exit ?_
 show ai _ _ _ _ _
 refine qS [] [(4, i6 (-1))] [] ?_
 cases hm
 exact A.ret qE
theorem jk {xa0 : List ak} {target : Int} {cmp : ak → Int → Option Int} {jj : Nat} {kR : List AV} (pV : aM Tryz.prog jj) (pW : ∀ (y0 : ak) (y1 : Int) (q : Int), cmp y0 y1 = some q → RO Tryz.prog jj [] ([.agg (k6 y0), i6 y1] ++ kR) (i6 q)) {r : Int × Bool} (hm : cC xa0 target cmp = some r) : RO Tryz.prog 165 [] [lf aI xa0, i6 target, .cfn jj kR] (.tup [i6 r.1, .bool r.2]) := by
 refine aR Tryz.func165 rfl rfl ?_
 unfold cC at hm
 refine qS [] [(0, lf aI xa0), (1, i6 target), (2, .cfn jj kR)] [] ?_
 refine qDs [(1, hto (lnE aI xa0))] [] [(8, i6 (xa0.length:Int))] ?_
 refine qDs [] [] [(9, i6 0), (10, i6 (xa0.length:Int))] ?_
 refine A.seq ?_
 refine A.block ?_
 obtain ⟨F1, n1, hF1, hm⟩ := fZ hm
 refine A.lpW (F := F1) hm (fun sg => match sg with | (i_1, j_1) => [(0, lf aI xa0), (1, i6 target), (2, .cfn jj kR), (8, i6 (xa0.length:Int)), (9, i6 i_1), (10, i6 j_1)]) (fun sg => match sg with | (i_1, j_1) => []) ?_ ?_
 ·exact qW
 rintro Z1 ⟨i_1, j_1⟩ hm
 rw [hF1] at hm
 refine A.seq ?_
 refine qDs [] [] [(17, .bool (decide (i_1 < j_1)))] ?_
 rcases ah hm with ⟨c1,hm⟩|⟨c1,hm⟩
 ·refine qT c1 ?_
  refine A.skip ?_
  show ai _ _ _ _ _
  refine A.block ?_
  refine qDs [(4, .sh (1:Int) (by decide))] [17] [(11, i6 (w64 (Int.fdiv (IntKind.wrap .u64 (w64 (i_1 + j_1))) (2 ^ min (1:Int).toNat 64))))] ?_
  obtain ⟨e_1, h1, hm⟩ := aa hm
  obtain ⟨af, h2, hm⟩ := aa hm
  refine qDs [(3, hix (ix aI h1)), (6, hrf (pW _ _ _ h2) pV)] [] [(31, .bool (decide (af < (0:Int))))] ?_
  rcases ah hm with ⟨c2,hm⟩|⟨c2,hm⟩
  ·refine qT c2 ?_
   refine qGs [] [9, 11, 31] [(9, i6 (w64 ((w64 (Int.fdiv (IntKind.wrap .u64 (w64 (i_1 + j_1))) (2 ^ min (1:Int).toNat 64))) + (1:Int))))] ?_
   exact qX (w64 ((w64 (Int.fdiv (IntKind.wrap .u64 (w64 (i_1 + j_1))) (2 ^ min (1:Int).toNat 64))) + (1:Int)), j_1) hm
  refine qF c2 ?_
  refine qGs [] [10, 11, 31] [(10, i6 (w64 (Int.fdiv (IntKind.wrap .u64 (w64 (i_1 + j_1))) (2 ^ min (1:Int).toNat 64))))] ?_
  exact qX (i_1, w64 (Int.fdiv (IntKind.wrap .u64 (w64 (i_1 + j_1))) (2 ^ min (1:Int).toNat 64))) hm
 refine qF c1 ?_
 refine A.exit ?_
 show ai _ _ _ _ _
 rcases ah hm with ⟨c3,hm⟩|⟨c3,hm⟩
 ·obtain ⟨e_2, h3, hm⟩ := aa hm
  obtain ⟨ay, h4, hm⟩ := aa hm
  refine qS [(4, hto (bE c3)), (8, hix (ix aI h3)), (11, hrf (pW _ _ _ h4) pV)] [(6, i6 i_1), (7, .bool (decide (ay = (0:Int))))] [] ?_
  cases hm
  exact A.ret qE
 refine qS [(4, hto (bE c3))] [(6, i6 i_1), (7, .bool false)] [] ?_
 cases hm
 exact A.ret qE
theorem kV {sa0 : List aX} {f : aX → Option Bool} {f_g : Nat} {f_c : List AV} (f_k : aM Tryz.prog f_g) (f_f : ∀ (y0 : aX) (q : Bool), f y0 = some q → RO Tryz.prog f_g [] ([.agg (k0 y0)] ++ f_c) (.bool q)) {r : Bool} (hm : cV sa0 f = some r) : RO Tryz.prog 100 [] [lf aU sa0, .cfn f_g f_c] (.bool r) := by
 refine aR Tryz.func100 rfl rfl ?_
 unfold cV at hm
 refine qS [] [(0, lf aU sa0), (1, .cfn f_g f_c)] [] ?_
 obtain ⟨af, h1, hm⟩ := aa hm
 refine qS [(2, hro (l6 (f_k := f_k) (f_f := f_f) h1) at3)] [(4, .bool (decide ((0:Int) ≤ af)))] [] ?_
 cases hm
 exact A.ret qE
theorem eE {sa0 : List aT} {f : aT → Option Bool} {f_g : Nat} {f_c : List AV} (f_k : aM Tryz.prog f_g) (f_f : ∀ (y0 : aT) (q : Bool), f y0 = some q → RO Tryz.prog f_g [] ([.agg (k1 y0)] ++ f_c) (.bool q)) {r : Bool} (hm : cz sa0 f = some r) : RO Tryz.prog 106 [] [lf aA sa0, .cfn f_g f_c] (.bool r) := by
 refine aR Tryz.func106 rfl rfl ?_
 unfold cz at hm
 refine qS [] [(0, lf aA sa0), (1, .cfn f_g f_c)] [] ?_
 obtain ⟨af, h1, hm⟩ := aa hm
 refine qS [(2, hro (nu (f_k := f_k) (f_f := f_f) h1) at4)] [(4, .bool (decide ((0:Int) ≤ af)))] [] ?_
 cases hm
 exact A.ret qE
theorem kW {sa0 : List ak} {f : ak → Option Bool} {f_g : Nat} {f_c : List AV} (f_k : aM Tryz.prog f_g) (f_f : ∀ (y0 : ak) (q : Bool), f y0 = some q → RO Tryz.prog f_g [] ([.agg (k6 y0)] ++ f_c) (.bool q)) {r : Bool} (hm : cW sa0 f = some r) : RO Tryz.prog 113 [] [lf aI sa0, .cfn f_g f_c] (.bool r) := by
 refine aR Tryz.func113 rfl rfl ?_
 unfold cW at hm
 refine qS [] [(0, lf aI sa0), (1, .cfn f_g f_c)] [] ?_
 obtain ⟨af, h1, hm⟩ := aa hm
 refine qS [(2, hro (l7 (f_k := f_k) (f_f := f_f) h1) at5)] [(4, .bool (decide ((0:Int) ≤ af)))] [] ?_
 cases hm
 exact A.ret qE
theorem fU {sa0 : List Int} {v : Int} {r : Bool} (hm : fq sa0 v = some r) : RO Tryz.prog 122 [] [lf bJ sa0, i6 v] (.bool r) := by
 refine aR Tryz.func122 rfl rfl ?_
 unfold fq at hm
 refine qS [] [(0, lf bJ sa0), (1, i6 v)] [] ?_
 obtain ⟨af, h1, hm⟩ := aa hm
 refine qS [(2, hro (tc h1) at7)] [(4, .bool (decide ((0:Int) ≤ af)))] [] ?_
 cases hm
 exact A.ret qE
theorem lQ {sa0 : List gb} {f : gb → Option Bool} {f_g : Nat} {f_c : List AV} (f_k : aM Tryz.prog f_g) (f_f : ∀ (y0 : gb) (q : Bool), f y0 = some q → RO Tryz.prog f_g [] ([.agg (k10 y0)] ++ f_c) (.bool q)) {r : Bool} (hm : eP sa0 f = some r) : RO Tryz.prog 131 [] [lf ec sa0, .cfn f_g f_c] (.bool r) := by
 refine aR Tryz.func131 rfl rfl ?_
 unfold eP at hm
 refine qS [] [(0, lf ec sa0), (1, .cfn f_g f_c)] [] ?_
 obtain ⟨af, h1, hm⟩ := aa hm
 refine qS [(2, hro (mF (f_k := f_k) (f_f := f_f) h1) aub)] [(4, .bool (decide ((0:Int) ≤ af)))] [] ?_
 cases hm
 exact A.ret qE
theorem gP {n : Int} {least : Int} {most : Int} {r : Bool} (hm : iH n least most = some r) : RO Tryz.prog 102 [] [i6 n, i6 least, i6 most] (.bool r) := by
 refine aR Tryz.func102 rfl rfl ?_
 unfold iH at hm
 refine qS [] [(0, i6 n), (1, i6 least), (2, i6 most)] [] ?_
 refine A.mid [(6, .bool ((decide (least ≤ n)) && (decide (n ≤ most))))] [] (fun hk => ?_) ?_
 ·rcases tf (decide (least ≤ n)) with c1 | c1
  ·exact qS [(3, hto (bE c1)), (8, hto (qU (q := decide (n ≤ most)) c1))] _ _ hk
  exact qS [(3, hto (bE c1)), (8, hto (rV (q := decide (n ≤ most)) c1))] _ _ hk
 cases hm
 exact A.ret qE
theorem qu {a : aT} {b : aT} {r : Int} (hm : gV a b = some r) : RO Tryz.prog 110 [] [.agg (k1 a), .agg (k1 b)] (i6 r) := by
 refine aR Tryz.func110 rfl rfl ?_
 unfold gV at hm
 refine qS [(0, .al 110002), (1, .al 110003)] [(2, .ptr 110002 0), (3, .ptr 110003 0)] [(110002, .cells 78 (k1 a)), (110003, .cells 78 (k1 b))] ?_
 obtain ⟨af, h1, hm⟩ := aa hm
 obtain ⟨ay, h2, hm⟩ := aa hm
 obtain ⟨aJ, h3, hm⟩ := aa hm
 refine qS [(4, hro (gw h1) yz), (9, hro (gw h2) yz), (11, hro (uS h3) ajD)] [(4, i6 aJ)] [] ?_
 cases hm
 exact A.ret qE
theorem sH {ra0 : aX} {id : Int} {r : Int} (hm : jE ra0 id = some r) : RO Tryz.prog 105 [] [.agg (k0 ra0), i6 id] (i6 r) := by
 refine aR Tryz.func105 rfl rfl ?_
 unfold jE at hm
 refine qS [(0, .al 105002)] [(1, i6 id), (2, .ptr 105002 0)] [(105002, .cells 87 (k0 ra0))] ?_
 obtain ⟨af, h1, hm⟩ := aa hm
 refine qS [(3, hro (gw h1) yz)] [(4, i6 af)] [] ?_
 cases hm
 exact A.ret qE
theorem vz {ra0 : aX} {r : Bool} (hm : lM ra0 = some r) : RO Tryz.prog 101 [] [.agg (k0 ra0)] (.bool r) := by
 refine aR Tryz.func101 rfl rfl ?_
 unfold lM at hm
 refine qS [(0, .al 101001)] [(1, .ptr 101001 0)] [(101001, .cells 87 (k0 ra0))] ?_
 obtain ⟨af, h1, hm⟩ := aa hm
 refine qS [(2, hro (gP h1) wu)] [(2, .bool (!af))] [] ?_
 cases hm
 exact A.ret qE
theorem vA {l : aT} {r : Bool} (hm : jt l = some r) : RO Tryz.prog 107 [] [.agg (k1 l)] (.bool r) := by
 refine aR Tryz.func107 rfl rfl ?_
 unfold jt at hm
 refine qS [(0, .al 107001)] [(1, .ptr 107001 0)] [(107001, .cells 78 (k1 l))] ?_
 obtain ⟨af, h1, hm⟩ := aa hm
 rcases ah hm with ⟨c1,hm⟩|⟨c1,hm⟩
 ·refine qS [(2, hro (gP h1) wu), (4, hto (bE c1))] [(2, .bool true)] [] ?_
  cases hm
  exact A.ret qE
 obtain ⟨ay, h2, hm⟩ := aa hm
 rcases ah hm with ⟨c2,hm⟩|⟨c2,hm⟩
 ·refine qS [(2, hro (gP h1) wu), (4, hto (bE c1)), (7, hro (gP h2) wu), (10, hto (bE c2))] [(2, .bool true)] [] ?_
  cases hm
  exact A.ret qE
 obtain ⟨aJ, h3, hm⟩ := aa hm
 refine qS [(2, hro (gP h1) wu), (4, hto (bE c1)), (7, hro (gP h2) wu), (10, hto (bE c2)), (13, hro (gP h3) wu)] [(2, .bool (!aJ))] [] ?_
 cases hm
 exact A.ret qE
theorem mG {id : Int} {c_0 : aH} {r : Bool} (hm : gW id c_0 = some r) : RO Tryz.prog 103 [] [i6 id, .dV (k2 c_0)] (.bool r) := by
 refine aR Tryz.func103 rfl rfl ?_
 unfold gW at hm
 refine qS [] [(0, i6 id), (1, .dV (k2 c_0))] [] ?_
 obtain ⟨af, h1, hm⟩ := aa hm
 refine qS [(3, hro (eR (jj := 105) (kR := []) (pV := ajz) (pW := fun _ _ _ h => sH h) h1) ajy)] [(5, .bool af.2)] [] ?_
 refine qS [] [(3, .bool (!af.2))] [] ?_
 cases hm
 exact A.ret qE
theorem vB {l : aT} {c_0 : aH} {r : Bool} (hm : lN l c_0 = some r) : RO Tryz.prog 108 [] [.agg (k1 l), .dV [.fn 103 [.dV (k2 c_0)]]] (.bool r) := by
 refine aR Tryz.func108 rfl rfl ?_
 unfold lN at hm
 refine qS [(0, .al 108002)] [(1, .dV [.fn 103 [.dV (k2 c_0)]]), (2, .ptr 108002 0)] [(108002, .cells 78 (k1 l))] ?_
 obtain ⟨af, h1, hm⟩ := aa hm
 rcases ah hm with ⟨c1,hm⟩|⟨c1,hm⟩
 ·refine qS [(3, hle [] (mG h1) aeI), (4, hto (bE c1))] [(3, .bool true)] [] ?_
  cases hm
  exact A.ret qE
 obtain ⟨ay, h2, hm⟩ := aa hm
 refine qS [(3, hle [] (mG h1) aeI), (4, hto (bE c1)), (8, hle [] (mG h2) aeI)] [(3, .bool ay)] [] ?_
 cases hm
 exact A.ret qE
theorem vC {l : aT} {r : Bool} (hm : lP l = some r) : RO Tryz.prog 109 [] [.agg (k1 l)] (.bool r) := by
 refine aR Tryz.func109 rfl rfl ?_
 unfold lP at hm
 refine qS [(0, .al 109001)] [(1, .ptr 109001 0)] [(109001, .cells 78 (k1 l))] ?_
 refine qS [] [(2, .bool (decide (l.B ≤ l.A)))] [] ?_
 cases hm
 exact A.ret qE
theorem iP {t : aH} {r : Int} (hm : gd t = some r) : RO Tryz.prog 60 [] [.agg (k2 t)] (i6 r) := by
 refine aR Tryz.func60 rfl rfl ?_
 unfold gd at hm
 refine qS [(0, .al 60001)] [(1, .ptr 60001 0)] [(60001, .cells 44 (k2 t))] ?_
 refine A.seq ?_
 refine A.block ?_
 refine A.mid [(1, .ptr 60001 0), (6, .bool ((decide ((24:Int) < (t.aK.length:Int))) || (decide ((60:Int) < (t.Links.length:Int)))))] [(60001, .cells 44 (k2 t))] (fun hk => ?_) ?_
 ·rcases tf (decide ((24:Int) < (t.aK.length:Int))) with c1 | c1
  ·exact qS [(2, hto (lnE aU t.aK)), (4, hto (bE c1)), (10, hto (orT (q := decide ((60:Int) < (t.Links.length:Int))) c1))] _ _ hk
  exact qS [(2, hto (lnE aU t.aK)), (4, hto (bE c1)), (7, hto (lnE aA t.Links)), (10, hto (orF (q := decide ((60:Int) < (t.Links.length:Int))) c1))] _ _ hk
 rcases ah hm with ⟨c2,hm⟩|⟨c2,hm⟩
 ·refine qT c2 ?_
  refine qS [] [(2, i6 3)] [] ?_
  cases hm
  exact A.ret qE
 refine qF c2 ?_
 obtain ⟨af, h1, hm⟩ := aa hm
 refine qDs [(2, hro (kV (f_g := 101) (f_c := []) (f_k := atF) (f_f := fun _ _ h => vz h) h1) atE)] [6] [(17, .bool af)] ?_
 rcases ah hm with ⟨c3,hm⟩|⟨c3,hm⟩
 ·refine qT c3 ?_
  refine qS [] [(2, i6 2)] [] ?_
  cases hm
  exact A.ret qE
 refine qF c3 ?_
 refine A.skip ?_
 show ai _ _ _ _ _
 refine A.seq ?_
 refine qDs [(2, hto (lnE aU t.aK))] [17] [(23, i6 (t.aK.length:Int)), (24, i6 0)] ?_
 refine A.block ?_
 refine A.bC 1 0 rfl rfl rfl fun hb1 => ?_
 obtain ⟨B1, K1, hB1, hK1, hm⟩ := bt hm
 refine A.lpI (l := t.aK) (j0 := 0) (B := B1) (K := K1) hm (fun j1 => fun sg => match sg with | () => [(1, .ptr 60001 0), (23, i6 (t.aK.length:Int)), (24, i6 (j1 : Int))]) (fun j1 => fun sg => match sg with | () => [(60001, .cells 44 (k2 t))]) ?_ ?_ ?_
 ·exact qW
 ·rintro j1 e1 Z1 ⟨⟩ hj1 hx1 hm
  rw [hB1] at hm
  refine qDs [] [] [(25, .bool (decide ((j1 : Int) < (t.aK.length:Int))))] ?_
  refine A.seq ?_
  refine qT (ltT hx1) ?_
  refine A.skip ?_
  show ai _ _ _ _ _
  refine A.seq ?_
  refine A.block ?_
  refine qDs [] [25] [(3, i6 (j1 : Int))] ?_
  obtain ⟨J1, hJ1, hm⟩ := bK hm
  refine A.J (J := J1) (r := r) (fun v_1 => [(1, .ptr 60001 0), (23, i6 (t.aK.length:Int)), (24, i6 (j1 : Int)), (44, .bool v_1)]) (fun v_1 => [(60001, .cells 44 (k2 t))]) ?_ ?_
  ·rcases ah hm with ⟨c4,hm⟩|⟨c4,hm⟩
   ·obtain ⟨e_1, h2, hm⟩ := aa hm
    refine qGs [(2, hto (bE c4)), (7, hix (ix aU h2)), (13, hix (ix aU (bf hx1)))] [3] [(44, .bool (decide (e1.ID ≤ e_1.ID)))] ?_
    exact qX (decide (e1.ID ≤ e_1.ID)) hm
   refine qGs [(2, hto (bE c4))] [3] [(44, .bool false)] ?_
   exact qX false hm
  rintro v_1 hm
  rw [hJ1] at hm
  rcases ah hm with ⟨c5,hm⟩|⟨c5,hm⟩
  ·refine qT c5 ?_
   refine qS [] [(2, i6 25)] [] ?_
   cases hm
   exact A.ret qE
  refine qF c5 ?_
  refine A.skip ?_
  show ai _ _ _ _ _
  refine qGs [(0, hto (inc hx1 hb1))] [24, 44] [(24, i6 ((j1 + 1 : Nat) : Int))] ?_
  exact qX () hm
 rintro j1 ⟨⟩ hj1 hl1 hm
 rw [hK1] at hm
 refine qDs [] [] [(25, .bool (decide ((j1 : Int) < (t.aK.length:Int))))] ?_
 refine A.seq ?_
 refine qF (ltF hl1) ?_
 refine A.exit ?_
 show ai _ _ _ _ _
 refine qD [(1, .al 60004)] [23, 24, 25] [(4, .ptr 60004 0)] [] [(60004, .cells 75 [.fn 103 [.ptr 60001 0]])] ?_
 refine A.seq ?_
 refine A.block ?_
 obtain ⟨ay, h3, hm⟩ := aa hm
 refine qDs [(2, hro (eE (f_g := 107) (f_c := []) (f_k := atG) (f_f := fun _ _ h => vA h) h3) aeJ)] [] [(47, .bool ay)] ?_
 rcases ah hm with ⟨c6,hm⟩|⟨c6,hm⟩
 ·refine qT c6 ?_
  refine qS [] [(2, i6 2)] [] ?_
  cases hm
  exact A.ret qE
 refine qF c6 ?_
 obtain ⟨aJ, h4, hm⟩ := aa hm
 refine qD [(3, hle [60004, 60001] (eE (f_g := 108) (f_c := [.dV [.fn 103 [.dV (k2 t)]]]) (f_k := atH) (f_f := fun _ _ h => vB h) h4) aeJ)] [4, 47] [(51, .bool aJ)] [60004] [] ?_
 rcases ah hm with ⟨c7,hm⟩|⟨c7,hm⟩
 ·refine qT c7 ?_
  refine qS [] [(2, i6 4)] [] ?_
  cases hm
  exact A.ret qE
 refine qF c7 ?_
 obtain ⟨bk, h5, hm⟩ := aa hm
 refine qDs [(2, hro (eE (f_g := 109) (f_c := []) (f_k := atI) (f_f := fun _ _ h => vC h) h5) aeJ)] [51] [(56, .bool bk)] ?_
 rcases ah hm with ⟨c8,hm⟩|⟨c8,hm⟩
 ·refine qT c8 ?_
  refine qS [] [(2, i6 8)] [] ?_
  cases hm
  exact A.ret qE
 refine qF c8 ?_
 refine A.skip ?_
 show ai _ _ _ _ _
 refine A.seq ?_
 refine qDs [(2, hto (lnE aA t.Links))] [56] [(62, i6 (t.Links.length:Int)), (63, i6 0)] ?_
 refine A.block ?_
 refine A.bC 1 1 rfl rfl rfl fun hb2 => ?_
 obtain ⟨B2, K2, hB2, hK2, hm⟩ := bt hm
 refine A.lpI (l := t.Links) (j0 := 0) (B := B2) (K := K2) hm (fun j2 => fun sg => match sg with | () => [(1, .ptr 60001 0), (62, i6 (t.Links.length:Int)), (63, i6 (j2 : Int))]) (fun j2 => fun sg => match sg with | () => [(60001, .cells 44 (k2 t))]) ?_ ?_ ?_
 ·exact qW
 ·rintro j2 e2 Z2 ⟨⟩ hj2 hx2 hm
  rw [hB2] at hm
  refine qDs [] [] [(64, .bool (decide ((j2 : Int) < (t.Links.length:Int))))] ?_
  refine A.seq ?_
  refine qT (ltT hx2) ?_
  refine A.skip ?_
  show ai _ _ _ _ _
  refine A.seq ?_
  refine A.block ?_
  refine qDs [] [64] [(5, i6 (j2 : Int))] ?_
  obtain ⟨J2, hJ2, hm⟩ := bK hm
  refine A.J (J := J2) (r := r) (fun v_2 => [(1, .ptr 60001 0), (62, i6 (t.Links.length:Int)), (63, i6 (j2 : Int)), (82, .bool v_2)]) (fun v_2 => [(60001, .cells 44 (k2 t))]) ?_ ?_
  ·rcases ah hm with ⟨c9,hm⟩|⟨c9,hm⟩
   ·obtain ⟨e_2, h6, hm⟩ := aa hm
    obtain ⟨bF, h7, hm⟩ := aa hm
    refine qGs [(2, hto (bE c9)), (7, hix (ix aA h6)), (12, hix (ix aA (bf hx2))), (14, hro (qu h7) ajA)] [5] [(82, .bool (decide ((0:Int) ≤ bF)))] ?_
    exact qX (decide ((0:Int) ≤ bF)) hm
   refine qGs [(2, hto (bE c9))] [5] [(82, .bool false)] ?_
   exact qX false hm
  rintro v_2 hm
  rw [hJ2] at hm
  rcases ah hm with ⟨c10,hm⟩|⟨c10,hm⟩
  ·refine qT c10 ?_
   refine qS [] [(2, i6 25)] [] ?_
   cases hm
   exact A.ret qE
  refine qF c10 ?_
  refine A.skip ?_
  show ai _ _ _ _ _
  refine qGs [(0, hto (inc hx2 hb2))] [63, 82] [(63, i6 ((j2 + 1 : Nat) : Int))] ?_
  exact qX () hm
 rintro j2 ⟨⟩ hj2 hl2 hm
 rw [hK2] at hm
 refine qDs [] [] [(64, .bool (decide ((j2 : Int) < (t.Links.length:Int))))] ?_
 refine A.seq ?_
 refine qF (ltF hl2) ?_
 refine A.exit ?_
 show ai _ _ _ _ _
 refine qS [] [(2, i6 0)] [] ?_
 cases hm
 exact A.ret qE
theorem gH {t : aH} {r : Bool} (hm : gf t = some r) : RO Tryz.prog 139 [] [.agg (k2 t)] (.bool r) := by
 refine aR Tryz.func139 rfl rfl ?_
 unfold gf at hm
 refine qS [(0, .al 139001)] [(1, .ptr 139001 0)] [(139001, .cells 44 (k2 t))] ?_
 obtain ⟨af, h1, hm⟩ := aa hm
 refine qS [(1, hro (iP h1) acL)] [(2, .bool (decide (af = (0:Int))))] [] ?_
 cases hm
 exact A.ret qE
theorem sI {t : aH} {aL : Int} {r : aX × Bool} (hm : jF t aL = some r) : RO Tryz.prog 150 [] [.agg (k2 t), i6 aL] (.tup [.agg (k0 r.1), .bool r.2]) := by
 refine aR Tryz.func150 rfl rfl ?_
 unfold jF at hm
 refine qS [(0, .al 150002), (1, .al 150004)] [(1, i6 aL), (2, .ptr 150002 0), (4, .ptr 150004 0)] [(150002, .cells 44 (k2 t)), (150004, .cells 87 [i6 0, .bool false])] ?_
 obtain ⟨af, h1, hm⟩ := aa hm
 refine qDs [(3, hro (eR (jj := 105) (kR := []) (pV := ajz) (pW := fun _ _ _ h => sH h) h1) ajy)] [1] [(6, i6 af.1), (7, .bool af.2)] ?_
 refine A.seq ?_
 refine qDs [] [7] [(16, .bool (!af.2))] ?_
 rcases ah hm with ⟨c1,hm⟩|⟨c1,hm⟩
 ·refine qT c1 ?_
  refine qD [] [2, 6, 16] [(5, .bool false)] [150002] [] ?_
  cases hm
  exact A.ret qE
 refine qF c1 ?_
 refine A.skip ?_
 show ai _ _ _ _ _
 obtain ⟨e_1, h2, hm⟩ := aa hm
 refine qS [(3, hix (ix aU h2))] [(4, .ptr 150004 0), (5, .bool true)] [(150004, .cells 87 (k0 e_1))] ?_
 cases hm
 exact A.ret qE
theorem gE {t : aH} {aL : Int} {r : Bool} (hm : gX t aL = some r) : RO Tryz.prog 121 [] [.agg (k2 t), i6 aL] (.bool r) := by
 refine aR Tryz.func121 rfl rfl ?_
 unfold gX at hm
 refine qS [(0, .al 121002)] [(1, i6 aL), (2, .ptr 121002 0)] [(121002, .cells 44 (k2 t))] ?_
 obtain ⟨af, h1, hm⟩ := aa hm
 refine qDs [(2, hro (sI h1) ajF), (6, .al 121005)] [1] [(6, .bool af.2)] ?_
 obtain ⟨ay, h2, hm⟩ := aa hm
 rcases ah hm with ⟨c1,hm⟩|⟨c1,hm⟩
 ·refine qS [(1, hro (gH h2) yA), (2, hto (bE c1))] [(4, .bool af.2)] [] ?_
  cases hm
  exact A.ret qE
 refine qS [(1, hro (gH h2) yA), (2, hto (bE c1))] [(4, .bool false)] [] ?_
 cases hm
 exact A.ret qE
theorem vD {t : aH} {aL : Int} {r : Bool} (hm : jv t aL = some r) : RO Tryz.prog 149 [] [.agg (k2 t), i6 aL] (.bool r) := by
 refine aR Tryz.func149 rfl rfl ?_
 unfold jv at hm
 refine qS [(0, .al 149002)] [(1, i6 aL), (2, .ptr 149002 0)] [(149002, .cells 44 (k2 t))] ?_
 obtain ⟨af, h1, hm⟩ := aa hm
 refine qD [(2, hro (sI h1) ajF), (6, .al 149005)] [1] [(5, .ptr 149005 0)] [] [(149005, .cells 87 (k0 af.1))] ?_
 obtain ⟨ay, h2, hm⟩ := aa hm
 rcases ah hm with ⟨c1,hm⟩|⟨c1,hm⟩
 ·refine qS [(1, hro (gH h2) yA), (2, hto (bE c1))] [(4, .bool af.1.aW)] [] ?_
  cases hm
  exact A.ret qE
 refine qS [(1, hro (gH h2) yA), (2, hto (bE c1))] [(4, .bool false)] [] ?_
 cases hm
 exact A.ret qE
theorem xK {t : aH} {ef : Int} {jq : Int} {r : Int × Bool} (hm : jG t ef jq = some r) : RO Tryz.prog 89 [] [.agg (k2 t), i6 ef, i6 jq] (.tup [i6 r.1, .bool r.2]) := by
 refine aR Tryz.func89 rfl rfl ?_
 unfold jG at hm
 refine qS [(0, .al 89003)] [(1, i6 ef), (2, i6 jq), (3, .ptr 89003 0)] [(89003, .cells 44 (k2 t))] ?_
 refine A.seq ?_
 obtain ⟨af, h1, hm⟩ := aa hm
 refine qDs [(1, hro (gH h1) yA)] [] [(12, .bool (!af))] ?_
 rcases ah hm with ⟨c1,hm⟩|⟨c1,hm⟩
 ·refine qT c1 ?_
  refine qS [] [(6, i6 0), (7, .bool false)] [] ?_
  cases hm
  exact A.ret qE
 refine qF c1 ?_
 refine A.skip ?_
 show ai _ _ _ _ _
 obtain ⟨ay, h2, hm⟩ := aa hm
 refine qDs [(9, hro (ja (jj := 110) (kR := []) (pV := ajA) (pW := fun _ _ _ h => qu h) h2) atY)] [12] [(8, i6 ay.1), (9, .bool ay.2)] ?_
 refine A.seq ?_
 refine A.block ?_
 refine qDs [] [9] [(26, .bool (!ay.2))] ?_
 rcases ah hm with ⟨c2,hm⟩|⟨c2,hm⟩
 ·refine qT c2 ?_
  refine qS [] [(6, i6 0), (7, .bool false)] [] ?_
  cases hm
  exact A.ret qE
 refine qF c2 ?_
 refine qDs [] [1, 2, 26] [(29, .bool (decide (ef < jq)))] ?_
 rcases ah hm with ⟨c3,hm⟩|⟨c3,hm⟩
 ·refine qT c3 ?_
  obtain ⟨e_1, h3, hm⟩ := aa hm
  refine qS [(3, hix (ix aA h3))] [(6, i6 e_1.jh), (7, .bool true)] [] ?_
  cases hm
  exact A.ret qE
 refine qF c3 ?_
 refine A.skip ?_
 show ai _ _ _ _ _
 obtain ⟨e_2, h4, hm⟩ := aa hm
 refine qS [(3, hix (ix aA h4))] [(6, i6 e_2.iN), (7, .bool true)] [] ?_
 cases hm
 exact A.ret qE
end Go.Proofs.YtpmifmdidfgpdaaGreat
