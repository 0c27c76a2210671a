/- The eC of cr of the program. No condition but bT bB stand in each. -/
import Derived.Test.YtpmifmdidfgpdaaGreatDA
namespace Go.Proofs.YtpmifmdidfgpdaaGreat
open Go
set_option maxRecDepth 100000
set_option linter.all false
theorem rX {xa0 : Int} {r : Bool} (hm : lq xa0 = some r) : RO Tryz.prog 162 [] [i6 xa0] (.bool r) := by
 refine aT Tryz.func162 rfl rfl ?_
 unfold lq at hm
 refine qS [] [(0, i6 xa0)] [] ?_
 refine qS [] [(2, .bool (!decide (xa0 = xa0)))] [] ?_
 cases hm
 exact A.ret qE
theorem gh {xa0 : Int} {y : Int} {r : Int} (hm : dW xa0 y = some r) : RO Tryz.prog 134 [] [i6 xa0, i6 y] (i6 r) := by
 refine aT Tryz.func134 rfl rfl ?_
 unfold dW at hm
 refine qS [] [(0, i6 xa0), (1, i6 y)] [] ?_
 obtain ⟨af, h1, hm⟩ := aa hm
 refine qDs [(1, hro (rX h1) ajt)] [] [(5, .bool af)] ?_
 obtain ⟨ay, h2, hm⟩ := aa hm
 refine qDs [(1, hro (rX h2) ajt)] [] [(6, .bool ay)] ?_
 refine A.seq ?_
 refine qDs [] [5] [(11, .bool af)] ?_
 rcases ai hm with ⟨c1,hm⟩|⟨c1,hm⟩
 ·refine qT c1 ?_
  refine A.seq ?_
  refine qS [] [(12, .bool ay)] [] ?_
  rcases ai hm with ⟨c2,hm⟩|⟨c2,hm⟩
  ·refine qT c2 ?_
   refine qS [] [(4, i6 0)] [] ?_
   cases hm
   exact A.ret qE
  refine qF c2 ?_
  refine A.skip ?_
  show ah _ _ _ _ _
  refine qS [] [(4, i6 (-1))] [] ?_
  cases hm
  exact A.ret qE
 refine qF c1 ?_
 refine A.skip ?_
 show ah _ _ _ _ _
 refine A.seq ?_
 refine qDs [] [6, 11] [(13, .bool ay)] ?_
 rcases ai hm with ⟨c3,hm⟩|⟨c3,hm⟩
 ·refine qT c3 ?_
  refine qS [] [(4, i6 1)] [] ?_
  cases hm
  exact A.ret qE
 refine qF c3 ?_
 refine A.skip ?_
 show ah _ _ _ _ _
 refine A.seq ?_
 refine qDs [] [13] [(16, .bool (decide (xa0 < y)))] ?_
 rcases ai hm with ⟨c4,hm⟩|⟨c4,hm⟩
 ·refine qT c4 ?_
  refine qS [] [(4, i6 (-1))] [] ?_
  cases hm
  exact A.ret qE
 refine qF c4 ?_
 refine A.skip ?_
 show ah _ _ _ _ _
 refine A.seq ?_
 refine qS [] [(19, .bool (decide (y < xa0)))] [] ?_
 rcases ai hm with ⟨c5,hm⟩|⟨c5,hm⟩
 ·refine qT c5 ?_
  refine qS [] [(4, i6 1)] [] ?_
  cases hm
  exact A.ret qE
 refine qF c5 ?_
 refine A.skip ?_
 show ah _ _ _ _ _
 refine qS [] [(4, i6 0)] [] ?_
 cases hm
 exact A.ret qE
theorem uD {vals : List Int} {r : Int} (hm : mg vals = some r) : RO Tryz.prog 133 [] [lf bL vals] (i6 r) := by
 refine aT Tryz.func133 rfl rfl ?_
 unfold mg at hm
 refine qS [] [(0, lf bL vals)] [] ?_
 refine qDs [] [] [(3, i6 0)] ?_
 refine A.seq ?_
 refine qDs [(1, hto (lnE bL vals))] [0] [(6, lf bL vals), (7, i6 (vals.length:Int)), (8, i6 0)] ?_
 refine A.block ?_
 refine A.bS 6 rfl fun hb1 => ?_
 obtain ⟨B1, K1, hB1, hK1, hm⟩ := bt hm
 refine A.lpI (l := vals) (j0 := 0) (B := B1) (K := K1) hm (fun j1 => fun sg => match sg with | () => [(3, i6 0), (6, lf bL vals), (7, i6 (vals.length:Int)), (8, i6 (j1 : Int))]) (fun j1 => fun sg => match sg with | () => []) ?_ ?_ ?_
 ·exact qW
 ·rintro j1 e1 Z1 ⟨⟩ hj1 hx1 hm
  rw [hB1] at hm
  refine qDs [] [] [(9, .bool (decide ((j1 : Int) < (vals.length:Int))))] ?_
  refine A.seq ?_
  refine qT (ltT hx1) ?_
  refine A.skip ?_
  show ah _ _ _ _ _
  refine A.seq ?_
  refine A.block ?_
  refine qDs [(0, hix (ix bL (bf hx1)))] [9] [(5, i6 e1)] ?_
  refine qDs [] [] [(14, .bool (!decide (e1 = (0:Int))))] ?_
  rcases ai hm with ⟨c1,hm⟩|⟨c1,hm⟩
  ·refine qT c1 ?_
   refine qS [] [(2, i6 e1)] [] ?_
   cases hm
   exact A.ret qE
  refine qF c1 ?_
  refine A.skip ?_
  show ah _ _ _ _ _
  refine qGs [(0, hto (inc hx1 hb1))] [8, 5, 14] [(8, i6 ((j1 + 1 : Nat) : Int))] ?_
  exact qX () hm
 rintro j1 ⟨⟩ hj1 hl1 hm
 rw [hK1] at hm
 refine qDs [] [] [(9, .bool (decide ((j1 : Int) < (vals.length:Int))))] ?_
 refine A.seq ?_
 refine qF (ltF hl1) ?_
 refine A.exit ?_
 show ah _ _ _ _ _
 refine qS [] [(2, i6 0)] [] ?_
 cases hm
 exact A.ret qE
theorem eM {xa0 : List aY} {target : Int} {cmp : aY → Int → Option Int} {jb : Nat} {kr : List AV} (pq : aM Tryz.prog jb) (pz : ∀ (y0 : aY) (y1 : Int) (q : Int), cmp y0 y1 = some q → RO Tryz.prog jb [] ([.agg (k0 y0), i6 y1] ++ kr) (i6 q)) {r : Int × Bool} (hm : cn xa0 target cmp = some r) : RO Tryz.prog 104 [] [lf aU xa0, i6 target, .cfn jb kr] (.tup [i6 r.1, .bool r.2]) := by
 refine aT Tryz.func104 rfl rfl ?_
 unfold cn at hm
 refine qS [] [(0, lf aU xa0), (1, i6 target), (2, .cfn jb kr)] [] ?_
 refine qDs [(1, hto (lnE aU xa0))] [] [(8, i6 (xa0.length:Int))] ?_
 refine qDs [] [] [(9, i6 0), (10, i6 (xa0.length:Int))] ?_
 refine A.seq ?_
 refine A.block ?_
 obtain ⟨F1, n1, hF1, hm⟩ := fC hm
 refine A.lpW (F := F1) hm (fun sg => match sg with | (i_1, j_1) => [(0, lf aU xa0), (1, i6 target), (2, .cfn jb kr), (8, i6 (xa0.length:Int)), (9, i6 i_1), (10, i6 j_1)]) (fun sg => match sg with | (i_1, j_1) => []) ?_ ?_
 ·exact qW
 rintro Z1 ⟨i_1, j_1⟩ hm
 rw [hF1] at hm
 refine A.seq ?_
 refine qDs [] [] [(17, .bool (decide (i_1 < j_1)))] ?_
 rcases ai hm with ⟨c1,hm⟩|⟨c1,hm⟩
 ·refine qT c1 ?_
  refine A.skip ?_
  show ah _ _ _ _ _
  refine A.block ?_
  refine qDs [(4, .sh (1:Int) (by decide))] [17] [(11, i6 (w64 (Int.fdiv (IntKind.wrap .u64 (w64 (i_1 + j_1))) (2 ^ min (1:Int).toNat 64))))] ?_
  obtain ⟨e_1, h1, hm⟩ := aa hm
  obtain ⟨af, h2, hm⟩ := aa hm
  refine qDs [(3, hix (ix aU h1)), (6, hrf (pz _ _ _ h2) pq)] [] [(31, .bool (decide (af < (0:Int))))] ?_
  rcases ai hm with ⟨c2,hm⟩|⟨c2,hm⟩
  ·refine qT c2 ?_
   refine qGs [] [9, 11, 31] [(9, i6 (w64 ((w64 (Int.fdiv (IntKind.wrap .u64 (w64 (i_1 + j_1))) (2 ^ min (1:Int).toNat 64))) + (1:Int))))] ?_
   exact qX (w64 ((w64 (Int.fdiv (IntKind.wrap .u64 (w64 (i_1 + j_1))) (2 ^ min (1:Int).toNat 64))) + (1:Int)), j_1) hm
  refine qF c2 ?_
  refine qGs [] [10, 11, 31] [(10, i6 (w64 (Int.fdiv (IntKind.wrap .u64 (w64 (i_1 + j_1))) (2 ^ min (1:Int).toNat 64))))] ?_
  exact qX (i_1, w64 (Int.fdiv (IntKind.wrap .u64 (w64 (i_1 + j_1))) (2 ^ min (1:Int).toNat 64))) hm
 refine qF c1 ?_
 refine A.exit ?_
 show ah _ _ _ _ _
 rcases ai hm with ⟨c3,hm⟩|⟨c3,hm⟩
 ·obtain ⟨e_2, h3, hm⟩ := aa hm
  obtain ⟨ay, h4, hm⟩ := aa hm
  refine qS [(4, hto (bE c3)), (8, hix (ix aU h3)), (11, hrf (pz _ _ _ h4) pq)] [(6, i6 i_1), (7, .bool (decide (ay = (0:Int))))] [] ?_
  cases hm
  exact A.ret qE
 refine qS [(4, hto (bE c3))] [(6, i6 i_1), (7, .bool false)] [] ?_
 cases hm
 exact A.ret qE
theorem mS {sa0 : List aV} {f : aV → Option Bool} {f_g : Nat} {f_c : List AV} (f_k : aM Tryz.prog f_g) (f_f : ∀ (y0 : aV) (q : Bool), f y0 = some q → RO Tryz.prog f_g [] ([.agg (k8 y0)] ++ f_c) (.bool q)) {r : Int} (hm : dY sa0 f = some r) : RO Tryz.prog 115 [] [lf aO sa0, .cfn f_g f_c] (i6 r) := by
 refine aT Tryz.func115 rfl rfl ?_
 unfold dY at hm
 refine qS [] [(0, lf aO sa0), (1, .cfn f_g f_c)] [] ?_
 refine A.seq ?_
 refine qDs [(1, hto (lnE aO sa0))] [] [(7, i6 (sa0.length:Int)), (8, i6 0)] ?_
 refine A.block ?_
 refine A.bS 0 rfl fun hb1 => ?_
 obtain ⟨B1, K1, hB1, hK1, hm⟩ := bt hm
 refine A.lpI (l := sa0) (j0 := 0) (B := B1) (K := K1) hm (fun j1 => fun sg => match sg with | () => [(0, lf aO sa0), (1, .cfn f_g f_c), (7, i6 (sa0.length:Int)), (8, i6 (j1 : Int))]) (fun j1 => fun sg => match sg with | () => []) ?_ ?_ ?_
 ·exact qW
 ·rintro j1 e1 Z1 ⟨⟩ hj1 hx1 hm
  rw [hB1] at hm
  refine qDs [] [] [(9, .bool (decide ((j1 : Int) < (sa0.length:Int))))] ?_
  refine A.seq ?_
  refine qT (ltT hx1) ?_
  refine A.skip ?_
  show ah _ _ _ _ _
  refine A.seq ?_
  refine A.block ?_
  refine qDs [] [9] [(5, i6 (j1 : Int))] ?_
  obtain ⟨af, h1, hm⟩ := aa hm
  refine qDs [(3, hix (ix aO (bf hx1))), (5, hrf (f_f _ _ h1) f_k)] [] [(16, .bool af)] ?_
  rcases ai hm with ⟨c1,hm⟩|⟨c1,hm⟩
  ·refine qT c1 ?_
   refine qS [] [(4, i6 (j1 : Int))] [] ?_
   cases hm
   exact A.ret qE
  refine qF c1 ?_
  refine A.skip ?_
  show ah _ _ _ _ _
  refine qGs [(0, hto (inc hx1 hb1))] [8, 5, 16] [(8, i6 ((j1 + 1 : Nat) : Int))] ?_
  exact qX () hm
 rintro j1 ⟨⟩ hj1 hl1 hm
 rw [hK1] at hm
 refine qDs [] [] [(9, .bool (decide ((j1 : Int) < (sa0.length:Int))))] ?_
 refine A.seq ?_
 refine qF (ltF hl1) ?_
 refine A.exit ?_
 show ah _ _ _ _ _
 refine qS [] [(4, i6 (-1))] [] ?_
 cases hm
 exact A.ret qE
theorem iQ {xa0 : List aQ} {target : aQ} {cmp : aQ → aQ → Option Int} {jb : Nat} {kr : List AV} (pq : aM Tryz.prog jb) (pz : ∀ (y0 : aQ) (y1 : aQ) (q : Int), cmp y0 y1 = some q → RO Tryz.prog jb [] ([.agg (k1 y0), .agg (k1 y1)] ++ kr) (i6 q)) {r : Int × Bool} (hm : cA xa0 target cmp = some r) : RO Tryz.prog 140 [] [lf az xa0, .agg (k1 target), .cfn jb kr] (.tup [i6 r.1, .bool r.2]) := by
 refine aT Tryz.func140 rfl rfl ?_
 unfold cA at hm
 refine qS [(0, .al 140004)] [(0, lf az xa0), (2, .cfn jb kr), (4, .ptr 140004 0)] [(140004, .cells 78 (k1 target))] ?_
 refine qDs [(1, hto (lnE az xa0))] [] [(8, i6 (xa0.length:Int))] ?_
 refine qDs [] [] [(9, i6 0), (10, i6 (xa0.length:Int))] ?_
 refine A.seq ?_
 refine A.block ?_
 obtain ⟨F1, n1, hF1, hm⟩ := fC hm
 refine A.lpW (F := F1) hm (fun sg => match sg with | (i_1, j_1) => [(0, lf az xa0), (2, .cfn jb kr), (4, .ptr 140004 0), (8, i6 (xa0.length:Int)), (9, i6 i_1), (10, i6 j_1)]) (fun sg => match sg with | (i_1, j_1) => [(140004, .cells 78 (k1 target))]) ?_ ?_
 ·exact qW
 rintro Z1 ⟨i_1, j_1⟩ hm
 rw [hF1] at hm
 refine A.seq ?_
 refine qDs [] [] [(17, .bool (decide (i_1 < j_1)))] ?_
 rcases ai hm with ⟨c1,hm⟩|⟨c1,hm⟩
 ·refine qT c1 ?_
  refine A.skip ?_
  show ah _ _ _ _ _
  refine A.block ?_
  refine qDs [(4, .sh (1:Int) (by decide))] [17] [(11, i6 (w64 (Int.fdiv (IntKind.wrap .u64 (w64 (i_1 + j_1))) (2 ^ min (1:Int).toNat 64))))] ?_
  obtain ⟨e_1, h1, hm⟩ := aa hm
  obtain ⟨af, h2, hm⟩ := aa hm
  refine qDs [(3, hix (ix az h1)), (6, hrf (pz _ _ _ h2) pq)] [] [(31, .bool (decide (af < (0:Int))))] ?_
  rcases ai hm with ⟨c2,hm⟩|⟨c2,hm⟩
  ·refine qT c2 ?_
   refine qGs [] [9, 11, 31] [(9, i6 (w64 ((w64 (Int.fdiv (IntKind.wrap .u64 (w64 (i_1 + j_1))) (2 ^ min (1:Int).toNat 64))) + (1:Int))))] ?_
   exact qX (w64 ((w64 (Int.fdiv (IntKind.wrap .u64 (w64 (i_1 + j_1))) (2 ^ min (1:Int).toNat 64))) + (1:Int)), j_1) hm
  refine qF c2 ?_
  refine qGs [] [10, 11, 31] [(10, i6 (w64 (Int.fdiv (IntKind.wrap .u64 (w64 (i_1 + j_1))) (2 ^ min (1:Int).toNat 64))))] ?_
  exact qX (i_1, w64 (Int.fdiv (IntKind.wrap .u64 (w64 (i_1 + j_1))) (2 ^ min (1:Int).toNat 64))) hm
 refine qF c1 ?_
 refine A.exit ?_
 show ah _ _ _ _ _
 rcases ai hm with ⟨c3,hm⟩|⟨c3,hm⟩
 ·obtain ⟨e_2, h3, hm⟩ := aa hm
  obtain ⟨ay, h4, hm⟩ := aa hm
  refine qS [(4, hto (bE c3)), (8, hix (ix az h3)), (11, hrf (pz _ _ _ h4) pq)] [(6, i6 i_1), (7, .bool (decide (ay = (0:Int))))] [] ?_
  cases hm
  exact A.ret qE
 refine qS [(4, hto (bE c3))] [(6, i6 i_1), (7, .bool false)] [] ?_
 cases hm
 exact A.ret qE
theorem lP {sa0 : List aY} {f : aY → Option Bool} {f_g : Nat} {f_c : List AV} (f_k : aM Tryz.prog f_g) (f_f : ∀ (y0 : aY) (q : Bool), f y0 = some q → RO Tryz.prog f_g [] ([.agg (k0 y0)] ++ f_c) (.bool q)) {r : Int} (hm : dK sa0 f = some r) : RO Tryz.prog 146 [] [lf aU sa0, .cfn f_g f_c] (i6 r) := by
 refine aT Tryz.func146 rfl rfl ?_
 unfold dK at hm
 refine qS [] [(0, lf aU sa0), (1, .cfn f_g f_c)] [] ?_
 refine A.seq ?_
 refine qDs [(1, hto (lnE aU sa0))] [] [(7, i6 (sa0.length:Int)), (8, i6 0)] ?_
 refine A.block ?_
 refine A.bS 0 rfl fun hb1 => ?_
 obtain ⟨B1, K1, hB1, hK1, hm⟩ := bt hm
 refine A.lpI (l := sa0) (j0 := 0) (B := B1) (K := K1) hm (fun j1 => fun sg => match sg with | () => [(0, lf aU sa0), (1, .cfn f_g f_c), (7, i6 (sa0.length:Int)), (8, i6 (j1 : Int))]) (fun j1 => fun sg => match sg with | () => []) ?_ ?_ ?_
 ·exact qW
 ·rintro j1 e1 Z1 ⟨⟩ hj1 hx1 hm
  rw [hB1] at hm
  refine qDs [] [] [(9, .bool (decide ((j1 : Int) < (sa0.length:Int))))] ?_
  refine A.seq ?_
  refine qT (ltT hx1) ?_
  refine A.skip ?_
  show ah _ _ _ _ _
  refine A.seq ?_
  refine A.block ?_
  refine qDs [] [9] [(5, i6 (j1 : Int))] ?_
  obtain ⟨af, h1, hm⟩ := aa hm
  refine qDs [(3, hix (ix aU (bf hx1))), (5, hrf (f_f _ _ h1) f_k)] [] [(16, .bool af)] ?_
  rcases ai hm with ⟨c1,hm⟩|⟨c1,hm⟩
  ·refine qT c1 ?_
   refine qS [] [(4, i6 (j1 : Int))] [] ?_
   cases hm
   exact A.ret qE
  refine qF c1 ?_
  refine A.skip ?_
  show ah _ _ _ _ _
  refine qGs [(0, hto (inc hx1 hb1))] [8, 5, 16] [(8, i6 ((j1 + 1 : Nat) : Int))] ?_
  exact qX () hm
 rintro j1 ⟨⟩ hj1 hl1 hm
 rw [hK1] at hm
 refine qDs [] [] [(9, .bool (decide ((j1 : Int) < (sa0.length:Int))))] ?_
 refine A.seq ?_
 refine qF (ltF hl1) ?_
 refine A.exit ?_
 show ah _ _ _ _ _
 refine qS [] [(4, i6 (-1))] [] ?_
 cases hm
 exact A.ret qE
theorem mT {sa0 : List aQ} {f : aQ → Option Bool} {f_g : Nat} {f_c : List AV} (f_k : aM Tryz.prog f_g) (f_f : ∀ (y0 : aQ) (q : Bool), f y0 = some q → RO Tryz.prog f_g [] ([.agg (k1 y0)] ++ f_c) (.bool q)) {r : Int} (hm : dZ sa0 f = some r) : RO Tryz.prog 147 [] [lf az sa0, .cfn f_g f_c] (i6 r) := by
 refine aT Tryz.func147 rfl rfl ?_
 unfold dZ at hm
 refine qS [] [(0, lf az sa0), (1, .cfn f_g f_c)] [] ?_
 refine A.seq ?_
 refine qDs [(1, hto (lnE az sa0))] [] [(7, i6 (sa0.length:Int)), (8, i6 0)] ?_
 refine A.block ?_
 refine A.bS 0 rfl fun hb1 => ?_
 obtain ⟨B1, K1, hB1, hK1, hm⟩ := bt hm
 refine A.lpI (l := sa0) (j0 := 0) (B := B1) (K := K1) hm (fun j1 => fun sg => match sg with | () => [(0, lf az sa0), (1, .cfn f_g f_c), (7, i6 (sa0.length:Int)), (8, i6 (j1 : Int))]) (fun j1 => fun sg => match sg with | () => []) ?_ ?_ ?_
 ·exact qW
 ·rintro j1 e1 Z1 ⟨⟩ hj1 hx1 hm
  rw [hB1] at hm
  refine qDs [] [] [(9, .bool (decide ((j1 : Int) < (sa0.length:Int))))] ?_
  refine A.seq ?_
  refine qT (ltT hx1) ?_
  refine A.skip ?_
  show ah _ _ _ _ _
  refine A.seq ?_
  refine A.block ?_
  refine qDs [] [9] [(5, i6 (j1 : Int))] ?_
  obtain ⟨af, h1, hm⟩ := aa hm
  refine qDs [(3, hix (ix az (bf hx1))), (5, hrf (f_f _ _ h1) f_k)] [] [(16, .bool af)] ?_
  rcases ai hm with ⟨c1,hm⟩|⟨c1,hm⟩
  ·refine qT c1 ?_
   refine qS [] [(4, i6 (j1 : Int))] [] ?_
   cases hm
   exact A.ret qE
  refine qF c1 ?_
  refine A.skip ?_
  show ah _ _ _ _ _
  refine qGs [(0, hto (inc hx1 hb1))] [8, 5, 16] [(8, i6 ((j1 + 1 : Nat) : Int))] ?_
  exact qX () hm
 rintro j1 ⟨⟩ hj1 hl1 hm
 rw [hK1] at hm
 refine qDs [] [] [(9, .bool (decide ((j1 : Int) < (sa0.length:Int))))] ?_
 refine A.seq ?_
 refine qF (ltF hl1) ?_
 refine A.exit ?_
 show ah _ _ _ _ _
 refine qS [] [(4, i6 (-1))] [] ?_
 cases hm
 exact A.ret qE
theorem lQ {sa0 : List aj} {f : aj → Option Bool} {f_g : Nat} {f_c : List AV} (f_k : aM Tryz.prog f_g) (f_f : ∀ (y0 : aj) (q : Bool), f y0 = some q → RO Tryz.prog f_g [] ([.agg (k6 y0)] ++ f_c) (.bool q)) {r : Int} (hm : dL sa0 f = some r) : RO Tryz.prog 148 [] [lf aH sa0, .cfn f_g f_c] (i6 r) := by
 refine aT Tryz.func148 rfl rfl ?_
 unfold dL at hm
 refine qS [] [(0, lf aH sa0), (1, .cfn f_g f_c)] [] ?_
 refine A.seq ?_
 refine qDs [(1, hto (lnE aH sa0))] [] [(7, i6 (sa0.length:Int)), (8, i6 0)] ?_
 refine A.block ?_
 refine A.bS 0 rfl fun hb1 => ?_
 obtain ⟨B1, K1, hB1, hK1, hm⟩ := bt hm
 refine A.lpI (l := sa0) (j0 := 0) (B := B1) (K := K1) hm (fun j1 => fun sg => match sg with | () => [(0, lf aH sa0), (1, .cfn f_g f_c), (7, i6 (sa0.length:Int)), (8, i6 (j1 : Int))]) (fun j1 => fun sg => match sg with | () => []) ?_ ?_ ?_
 ·exact qW
 ·rintro j1 e1 Z1 ⟨⟩ hj1 hx1 hm
  rw [hB1] at hm
  refine qDs [] [] [(9, .bool (decide ((j1 : Int) < (sa0.length:Int))))] ?_
  refine A.seq ?_
  refine qT (ltT hx1) ?_
  refine A.skip ?_
  show ah _ _ _ _ _
  refine A.seq ?_
  refine A.block ?_
  refine qDs [] [9] [(5, i6 (j1 : Int))] ?_
  obtain ⟨af, h1, hm⟩ := aa hm
  refine qDs [(3, hix (ix aH (bf hx1))), (5, hrf (f_f _ _ h1) f_k)] [] [(16, .bool af)] ?_
  rcases ai hm with ⟨c1,hm⟩|⟨c1,hm⟩
  ·refine qT c1 ?_
   refine qS [] [(4, i6 (j1 : Int))] [] ?_
   cases hm
   exact A.ret qE
  refine qF c1 ?_
  refine A.skip ?_
  show ah _ _ _ _ _
  refine qGs [(0, hto (inc hx1 hb1))] [8, 5, 16] [(8, i6 ((j1 + 1 : Nat) : Int))] ?_
  exact qX () hm
 rintro j1 ⟨⟩ hj1 hl1 hm
 rw [hK1] at hm
 refine qDs [] [] [(9, .bool (decide ((j1 : Int) < (sa0.length:Int))))] ?_
 refine A.seq ?_
 refine qF (ltF hl1) ?_
 refine A.exit ?_
 show ah _ _ _ _ _
 refine qS [] [(4, i6 (-1))] [] ?_
 cases hm
 exact A.ret qE
theorem sK {sa0 : List Int} {v : Int} {r : Int} (hm : kL sa0 v = some r) : RO Tryz.prog 151 [] [lf bL sa0, i6 v] (i6 r) := by
 refine aT Tryz.func151 rfl rfl ?_
 unfold kL at hm
 refine qS [] [(0, lf bL sa0), (1, i6 v)] [] ?_
 refine A.seq ?_
 refine qDs [(1, hto (lnE bL sa0))] [] [(7, i6 (sa0.length:Int)), (8, i6 0)] ?_
 refine A.block ?_
 refine A.bS 0 rfl fun hb1 => ?_
 obtain ⟨B1, K1, hB1, hK1, hm⟩ := bt hm
 refine A.lpI (l := sa0) (j0 := 0) (B := B1) (K := K1) hm (fun j1 => fun sg => match sg with | () => [(0, lf bL sa0), (1, i6 v), (7, i6 (sa0.length:Int)), (8, i6 (j1 : Int))]) (fun j1 => fun sg => match sg with | () => []) ?_ ?_ ?_
 ·exact qW
 ·rintro j1 e1 Z1 ⟨⟩ hj1 hx1 hm
  rw [hB1] at hm
  refine qDs [] [] [(9, .bool (decide ((j1 : Int) < (sa0.length:Int))))] ?_
  refine A.seq ?_
  refine qT (ltT hx1) ?_
  refine A.skip ?_
  show ah _ _ _ _ _
  refine A.seq ?_
  refine A.block ?_
  refine qDs [] [9] [(5, i6 (j1 : Int))] ?_
  refine qDs [(3, hix (ix bL (bf hx1)))] [] [(16, .bool (decide (v = e1)))] ?_
  rcases ai hm with ⟨c1,hm⟩|⟨c1,hm⟩
  ·refine qT c1 ?_
   refine qS [] [(4, i6 (j1 : Int))] [] ?_
   cases hm
   exact A.ret qE
  refine qF c1 ?_
  refine A.skip ?_
  show ah _ _ _ _ _
  refine qGs [(0, hto (inc hx1 hb1))] [8, 5, 16] [(8, i6 ((j1 + 1 : Nat) : Int))] ?_
  exact qX () hm
 rintro j1 ⟨⟩ hj1 hl1 hm
 rw [hK1] at hm
 refine qDs [] [] [(9, .bool (decide ((j1 : Int) < (sa0.length:Int))))] ?_
 refine A.seq ?_
 refine qF (ltF hl1) ?_
 refine A.exit ?_
 show ah _ _ _ _ _
 refine qS [] [(4, i6 (-1))] [] ?_
 cases hm
 exact A.ret qE
theorem mh {sa0 : List fQ} {f : fQ → Option Bool} {f_g : Nat} {f_c : List AV} (f_k : aM Tryz.prog f_g) (f_f : ∀ (y0 : fQ) (q : Bool), f y0 = some q → RO Tryz.prog f_g [] ([.agg (k10 y0)] ++ f_c) (.bool q)) {r : Int} (hm : fe sa0 f = some r) : RO Tryz.prog 161 [] [lf dV sa0, .cfn f_g f_c] (i6 r) := by
 refine aT Tryz.func161 rfl rfl ?_
 unfold fe at hm
 refine qS [] [(0, lf dV sa0), (1, .cfn f_g f_c)] [] ?_
 refine A.seq ?_
 refine qDs [(1, hto (lnE dV sa0))] [] [(7, i6 (sa0.length:Int)), (8, i6 0)] ?_
 refine A.block ?_
 refine A.bS 0 rfl fun hb1 => ?_
 obtain ⟨B1, K1, hB1, hK1, hm⟩ := bt hm
 refine A.lpI (l := sa0) (j0 := 0) (B := B1) (K := K1) hm (fun j1 => fun sg => match sg with | () => [(0, lf dV sa0), (1, .cfn f_g f_c), (7, i6 (sa0.length:Int)), (8, i6 (j1 : Int))]) (fun j1 => fun sg => match sg with | () => []) ?_ ?_ ?_
 ·exact qW
 ·rintro j1 e1 Z1 ⟨⟩ hj1 hx1 hm
  rw [hB1] at hm
  refine qDs [] [] [(9, .bool (decide ((j1 : Int) < (sa0.length:Int))))] ?_
  refine A.seq ?_
  refine qT (ltT hx1) ?_
  refine A.skip ?_
  show ah _ _ _ _ _
  refine A.seq ?_
  refine A.block ?_
  refine qDs [] [9] [(5, i6 (j1 : Int))] ?_
  obtain ⟨af, h1, hm⟩ := aa hm
  refine qDs [(3, hix (ix dV (bf hx1))), (5, hrf (f_f _ _ h1) f_k)] [] [(16, .bool af)] ?_
  rcases ai hm with ⟨c1,hm⟩|⟨c1,hm⟩
  ·refine qT c1 ?_
   refine qS [] [(4, i6 (j1 : Int))] [] ?_
   cases hm
   exact A.ret qE
  refine qF c1 ?_
  refine A.skip ?_
  show ah _ _ _ _ _
  refine qGs [(0, hto (inc hx1 hb1))] [8, 5, 16] [(8, i6 ((j1 + 1 : Nat) : Int))] ?_
  exact qX () hm
 rintro j1 ⟨⟩ hj1 hl1 hm
 rw [hK1] at hm
 refine qDs [] [] [(9, .bool (decide ((j1 : Int) < (sa0.length:Int))))] ?_
 refine A.seq ?_
 refine qF (ltF hl1) ?_
 refine A.exit ?_
 show ah _ _ _ _ _
 refine qS [] [(4, i6 (-1))] [] ?_
 cases hm
 exact A.ret qE
theorem jc {xa0 : List aj} {target : Int} {cmp : aj → Int → Option Int} {jb : Nat} {kr : List AV} (pq : aM Tryz.prog jb) (pz : ∀ (y0 : aj) (y1 : Int) (q : Int), cmp y0 y1 = some q → RO Tryz.prog jb [] ([.agg (k6 y0), i6 y1] ++ kr) (i6 q)) {r : Int × Bool} (hm : cC xa0 target cmp = some r) : RO Tryz.prog 165 [] [lf aH xa0, i6 target, .cfn jb kr] (.tup [i6 r.1, .bool r.2]) := by
 refine aT Tryz.func165 rfl rfl ?_
 unfold cC at hm
 refine qS [] [(0, lf aH xa0), (1, i6 target), (2, .cfn jb kr)] [] ?_
 refine qDs [(1, hto (lnE aH xa0))] [] [(8, i6 (xa0.length:Int))] ?_
 refine qDs [] [] [(9, i6 0), (10, i6 (xa0.length:Int))] ?_
 refine A.seq ?_
 refine A.block ?_
 obtain ⟨F1, n1, hF1, hm⟩ := fC hm
 refine A.lpW (F := F1) hm (fun sg => match sg with | (i_1, j_1) => [(0, lf aH xa0), (1, i6 target), (2, .cfn jb kr), (8, i6 (xa0.length:Int)), (9, i6 i_1), (10, i6 j_1)]) (fun sg => match sg with | (i_1, j_1) => []) ?_ ?_
 ·exact qW
 rintro Z1 ⟨i_1, j_1⟩ hm
 rw [hF1] at hm
 refine A.seq ?_
 refine qDs [] [] [(17, .bool (decide (i_1 < j_1)))] ?_
 rcases ai hm with ⟨c1,hm⟩|⟨c1,hm⟩
 ·refine qT c1 ?_
  refine A.skip ?_
  show ah _ _ _ _ _
  refine A.block ?_
  refine qDs [(4, .sh (1:Int) (by decide))] [17] [(11, i6 (w64 (Int.fdiv (IntKind.wrap .u64 (w64 (i_1 + j_1))) (2 ^ min (1:Int).toNat 64))))] ?_
  obtain ⟨e_1, h1, hm⟩ := aa hm
  obtain ⟨af, h2, hm⟩ := aa hm
  refine qDs [(3, hix (ix aH h1)), (6, hrf (pz _ _ _ h2) pq)] [] [(31, .bool (decide (af < (0:Int))))] ?_
  rcases ai hm with ⟨c2,hm⟩|⟨c2,hm⟩
  ·refine qT c2 ?_
   refine qGs [] [9, 11, 31] [(9, i6 (w64 ((w64 (Int.fdiv (IntKind.wrap .u64 (w64 (i_1 + j_1))) (2 ^ min (1:Int).toNat 64))) + (1:Int))))] ?_
   exact qX (w64 ((w64 (Int.fdiv (IntKind.wrap .u64 (w64 (i_1 + j_1))) (2 ^ min (1:Int).toNat 64))) + (1:Int)), j_1) hm
  refine qF c2 ?_
  refine qGs [] [10, 11, 31] [(10, i6 (w64 (Int.fdiv (IntKind.wrap .u64 (w64 (i_1 + j_1))) (2 ^ min (1:Int).toNat 64))))] ?_
  exact qX (i_1, w64 (Int.fdiv (IntKind.wrap .u64 (w64 (i_1 + j_1))) (2 ^ min (1:Int).toNat 64))) hm
 refine qF c1 ?_
 refine A.exit ?_
 show ah _ _ _ _ _
 rcases ai hm with ⟨c3,hm⟩|⟨c3,hm⟩
 ·obtain ⟨e_2, h3, hm⟩ := aa hm
  obtain ⟨ay, h4, hm⟩ := aa hm
  refine qS [(4, hto (bE c3)), (8, hix (ix aH h3)), (11, hrf (pz _ _ _ h4) pq)] [(6, i6 i_1), (7, .bool (decide (ay = (0:Int))))] [] ?_
  cases hm
  exact A.ret qE
 refine qS [(4, hto (bE c3))] [(6, i6 i_1), (7, .bool false)] [] ?_
 cases hm
 exact A.ret qE
theorem kH {sa0 : List aY} {f : aY → Option Bool} {f_g : Nat} {f_c : List AV} (f_k : aM Tryz.prog f_g) (f_f : ∀ (y0 : aY) (q : Bool), f y0 = some q → RO Tryz.prog f_g [] ([.agg (k0 y0)] ++ f_c) (.bool q)) {r : Bool} (hm : cU sa0 f = some r) : RO Tryz.prog 100 [] [lf aU sa0, .cfn f_g f_c] (.bool r) := by
 refine aT Tryz.func100 rfl rfl ?_
 unfold cU at hm
 refine qS [] [(0, lf aU sa0), (1, .cfn f_g f_c)] [] ?_
 obtain ⟨af, h1, hm⟩ := aa hm
 refine qS [(2, hro (lP (f_k := f_k) (f_f := f_f) h1) atI)] [(4, .bool (decide ((0:Int) ≤ af)))] [] ?_
 cases hm
 exact A.ret qE
theorem eB {sa0 : List aQ} {f : aQ → Option Bool} {f_g : Nat} {f_c : List AV} (f_k : aM Tryz.prog f_g) (f_f : ∀ (y0 : aQ) (q : Bool), f y0 = some q → RO Tryz.prog f_g [] ([.agg (k1 y0)] ++ f_c) (.bool q)) {r : Bool} (hm : cz sa0 f = some r) : RO Tryz.prog 106 [] [lf az sa0, .cfn f_g f_c] (.bool r) := by
 refine aT Tryz.func106 rfl rfl ?_
 unfold cz at hm
 refine qS [] [(0, lf az sa0), (1, .cfn f_g f_c)] [] ?_
 obtain ⟨af, h1, hm⟩ := aa hm
 refine qS [(2, hro (mT (f_k := f_k) (f_f := f_f) h1) atJ)] [(4, .bool (decide ((0:Int) ≤ af)))] [] ?_
 cases hm
 exact A.ret qE
theorem kI {sa0 : List aj} {f : aj → Option Bool} {f_g : Nat} {f_c : List AV} (f_k : aM Tryz.prog f_g) (f_f : ∀ (y0 : aj) (q : Bool), f y0 = some q → RO Tryz.prog f_g [] ([.agg (k6 y0)] ++ f_c) (.bool q)) {r : Bool} (hm : cV sa0 f = some r) : RO Tryz.prog 113 [] [lf aH sa0, .cfn f_g f_c] (.bool r) := by
 refine aT Tryz.func113 rfl rfl ?_
 unfold cV at hm
 refine qS [] [(0, lf aH sa0), (1, .cfn f_g f_c)] [] ?_
 obtain ⟨af, h1, hm⟩ := aa hm
 refine qS [(2, hro (lQ (f_k := f_k) (f_f := f_f) h1) atK)] [(4, .bool (decide ((0:Int) ≤ af)))] [] ?_
 cases hm
 exact A.ret qE
theorem fO {sa0 : List Int} {v : Int} {r : Bool} (hm : ff sa0 v = some r) : RO Tryz.prog 122 [] [lf bL sa0, i6 v] (.bool r) := by
 refine aT Tryz.func122 rfl rfl ?_
 unfold ff at hm
 refine qS [] [(0, lf bL sa0), (1, i6 v)] [] ?_
 obtain ⟨af, h1, hm⟩ := aa hm
 refine qS [(2, hro (sK h1) atM)] [(4, .bool (decide ((0:Int) ≤ af)))] [] ?_
 cases hm
 exact A.ret qE
theorem lC {sa0 : List fQ} {f : fQ → Option Bool} {f_g : Nat} {f_c : List AV} (f_k : aM Tryz.prog f_g) (f_f : ∀ (y0 : fQ) (q : Bool), f y0 = some q → RO Tryz.prog f_g [] ([.agg (k10 y0)] ++ f_c) (.bool q)) {r : Bool} (hm : eF sa0 f = some r) : RO Tryz.prog 131 [] [lf dV sa0, .cfn f_g f_c] (.bool r) := by
 refine aT Tryz.func131 rfl rfl ?_
 unfold eF at hm
 refine qS [] [(0, lf dV sa0), (1, .cfn f_g f_c)] [] ?_
 obtain ⟨af, h1, hm⟩ := aa hm
 refine qS [(2, hro (mh (f_k := f_k) (f_f := f_f) h1) atQ)] [(4, .bool (decide ((0:Int) ≤ af)))] [] ?_
 cases hm
 exact A.ret qE
theorem gJ {n : Int} {least : Int} {most : Int} {r : Bool} (hm : iy n least most = some r) : RO Tryz.prog 102 [] [i6 n, i6 least, i6 most] (.bool r) := by
 refine aT Tryz.func102 rfl rfl ?_
 unfold iy at hm
 refine qS [] [(0, i6 n), (1, i6 least), (2, i6 most)] [] ?_
 refine A.mid [(6, .bool ((decide (least ≤ n)) && (decide (n ≤ most))))] [] (fun hk => ?_) ?_
 ·rcases tf (decide (least ≤ n)) with c1 | c1
  ·exact qS [(3, hto (bE c1)), (8, hto (qu (q := decide (n ≤ most)) c1))] _ _ hk
  exact qS [(3, hto (bE c1)), (8, hto (rF (q := decide (n ≤ most)) c1))] _ _ hk
 cases hm
 exact A.ret qE
theorem pZ {a : aQ} {b : aQ} {r : Int} (hm : gM a b = some r) : RO Tryz.prog 110 [] [.agg (k1 a), .agg (k1 b)] (i6 r) := by
 refine aT Tryz.func110 rfl rfl ?_
 unfold gM at hm
 refine qS [(0, .al 110002), (1, .al 110003)] [(2, .ptr 110002 0), (3, .ptr 110003 0)] [(110002, .cells 78 (k1 a)), (110003, .cells 78 (k1 b))] ?_
 obtain ⟨af, h1, hm⟩ := aa hm
 obtain ⟨ay, h2, hm⟩ := aa hm
 obtain ⟨aK, h3, hm⟩ := aa hm
 refine qS [(4, hro (gh h1) xZ), (9, hro (gh h2) xZ), (11, hro (uD h3) ajl)] [(4, i6 aK)] [] ?_
 cases hm
 exact A.ret qE
theorem rY {ra0 : aY} {id : Int} {r : Int} (hm : jt ra0 id = some r) : RO Tryz.prog 105 [] [.agg (k0 ra0), i6 id] (i6 r) := by
 refine aT Tryz.func105 rfl rfl ?_
 unfold jt at hm
 refine qS [(0, .al 105002)] [(1, i6 id), (2, .ptr 105002 0)] [(105002, .cells 87 (k0 ra0))] ?_
 obtain ⟨af, h1, hm⟩ := aa hm
 refine qS [(3, hro (gh h1) xZ)] [(4, i6 af)] [] ?_
 cases hm
 exact A.ret qE
theorem va {ra0 : aY} {r : Bool} (hm : lu ra0 = some r) : RO Tryz.prog 101 [] [.agg (k0 ra0)] (.bool r) := by
 refine aT Tryz.func101 rfl rfl ?_
 unfold lu at hm
 refine qS [(0, .al 101001)] [(1, .ptr 101001 0)] [(101001, .cells 87 (k0 ra0))] ?_
 obtain ⟨af, h1, hm⟩ := aa hm
 refine qS [(2, hro (gJ h1) vP)] [(2, .bool (!af))] [] ?_
 cases hm
 exact A.ret qE
theorem ve {l : aQ} {r : Bool} (hm : jk l = some r) : RO Tryz.prog 107 [] [.agg (k1 l)] (.bool r) := by
 refine aT Tryz.func107 rfl rfl ?_
 unfold jk at hm
 refine qS [(0, .al 107001)] [(1, .ptr 107001 0)] [(107001, .cells 78 (k1 l))] ?_
 obtain ⟨af, h1, hm⟩ := aa hm
 rcases ai hm with ⟨c1,hm⟩|⟨c1,hm⟩
 ·refine qS [(2, hro (gJ h1) vP), (4, hto (bE c1))] [(2, .bool true)] [] ?_
  cases hm
  exact A.ret qE
 obtain ⟨ay, h2, hm⟩ := aa hm
 rcases ai hm with ⟨c2,hm⟩|⟨c2,hm⟩
 ·refine qS [(2, hro (gJ h1) vP), (4, hto (bE c1)), (7, hro (gJ h2) vP), (10, hto (bE c2))] [(2, .bool true)] [] ?_
  cases hm
  exact A.ret qE
 obtain ⟨aK, h3, hm⟩ := aa hm
 refine qS [(2, hro (gJ h1) vP), (4, hto (bE c1)), (7, hro (gJ h2) vP), (10, hto (bE c2)), (13, hro (gJ h3) vP)] [(2, .bool (!aK))] [] ?_
 cases hm
 exact A.ret qE
theorem mj {id : Int} {c_0 : aD} {r : Bool} (hm : gN id c_0 = some r) : RO Tryz.prog 103 [] [i6 id, .dO (k2 c_0)] (.bool r) := by
 refine aT Tryz.func103 rfl rfl ?_
 unfold gN at hm
 refine qS [] [(0, i6 id), (1, .dO (k2 c_0))] [] ?_
 obtain ⟨af, h1, hm⟩ := aa hm
 refine qS [(3, hro (eM (jb := 105) (kr := []) (pq := ajh) (pz := fun _ _ _ h => rY h) h1) ajg)] [(5, .bool af.2)] [] ?_
 refine qS [] [(3, .bool (!af.2))] [] ?_
 cases hm
 exact A.ret qE
theorem vf {l : aQ} {c_0 : aD} {r : Bool} (hm : lz l c_0 = some r) : RO Tryz.prog 108 [] [.agg (k1 l), .dO [.fn 103 [.dO (k2 c_0)]]] (.bool r) := by
 refine aT Tryz.func108 rfl rfl ?_
 unfold lz at hm
 refine qS [(0, .al 108002)] [(1, .dO [.fn 103 [.dO (k2 c_0)]]), (2, .ptr 108002 0)] [(108002, .cells 78 (k1 l))] ?_
 obtain ⟨af, h1, hm⟩ := aa hm
 rcases ai hm with ⟨c1,hm⟩|⟨c1,hm⟩
 ·refine qS [(3, hle [] (mj h1) aec), (4, hto (bE c1))] [(3, .bool true)] [] ?_
  cases hm
  exact A.ret qE
 obtain ⟨ay, h2, hm⟩ := aa hm
 refine qS [(3, hle [] (mj h1) aec), (4, hto (bE c1)), (8, hle [] (mj h2) aec)] [(3, .bool ay)] [] ?_
 cases hm
 exact A.ret qE
theorem vg {l : aQ} {r : Bool} (hm : lB l = some r) : RO Tryz.prog 109 [] [.agg (k1 l)] (.bool r) := by
 refine aT Tryz.func109 rfl rfl ?_
 unfold lB at hm
 refine qS [(0, .al 109001)] [(1, .ptr 109001 0)] [(109001, .cells 78 (k1 l))] ?_
 refine qS [] [(2, .bool (decide (l.B ≤ l.A)))] [] ?_
 cases hm
 exact A.ret qE
theorem iH {t : aD} {r : Int} (hm : fR t = some r) : RO Tryz.prog 60 [] [.agg (k2 t)] (i6 r) := by
 refine aT Tryz.func60 rfl rfl ?_
 unfold fR at hm
 refine qS [(0, .al 60001)] [(1, .ptr 60001 0)] [(60001, .cells 44 (k2 t))] ?_
 refine A.seq ?_
 refine A.block ?_
 refine A.mid [(1, .ptr 60001 0), (6, .bool ((decide ((24:Int) < (t.aI.length:Int))) || (decide ((60:Int) < (t.Links.length:Int)))))] [(60001, .cells 44 (k2 t))] (fun hk => ?_) ?_
 ·rcases tf (decide ((24:Int) < (t.aI.length:Int))) with c1 | c1
  ·exact qS [(2, hto (lnE aU t.aI)), (4, hto (bE c1)), (10, hto (orT (q := decide ((60:Int) < (t.Links.length:Int))) c1))] _ _ hk
  exact qS [(2, hto (lnE aU t.aI)), (4, hto (bE c1)), (7, hto (lnE az t.Links)), (10, hto (orF (q := decide ((60:Int) < (t.Links.length:Int))) c1))] _ _ hk
 rcases ai hm with ⟨c2,hm⟩|⟨c2,hm⟩
 ·refine qT c2 ?_
  refine qS [] [(2, i6 3)] [] ?_
  cases hm
  exact A.ret qE
 refine qF c2 ?_
 obtain ⟨af, h1, hm⟩ := aa hm
 refine qDs [(2, hro (kH (f_g := 101) (f_c := []) (f_k := atm) (f_f := fun _ _ h => va h) h1) atl)] [6] [(17, .bool af)] ?_
 rcases ai hm with ⟨c3,hm⟩|⟨c3,hm⟩
 ·refine qT c3 ?_
  refine qS [] [(2, i6 2)] [] ?_
  cases hm
  exact A.ret qE
 refine qF c3 ?_
 refine A.skip ?_
 show ah _ _ _ _ _
 refine A.seq ?_
 refine qDs [(2, hto (lnE aU t.aI))] [17] [(23, i6 (t.aI.length:Int)), (24, i6 0)] ?_
 refine A.block ?_
 refine A.bC 1 0 rfl rfl rfl fun hb1 => ?_
 obtain ⟨B1, K1, hB1, hK1, hm⟩ := bt hm
 refine A.lpI (l := t.aI) (j0 := 0) (B := B1) (K := K1) hm (fun j1 => fun sg => match sg with | () => [(1, .ptr 60001 0), (23, i6 (t.aI.length:Int)), (24, i6 (j1 : Int))]) (fun j1 => fun sg => match sg with | () => [(60001, .cells 44 (k2 t))]) ?_ ?_ ?_
 ·exact qW
 ·rintro j1 e1 Z1 ⟨⟩ hj1 hx1 hm
  rw [hB1] at hm
  refine qDs [] [] [(25, .bool (decide ((j1 : Int) < (t.aI.length:Int))))] ?_
  refine A.seq ?_
  refine qT (ltT hx1) ?_
  refine A.skip ?_
  show ah _ _ _ _ _
  refine A.seq ?_
  refine A.block ?_
  refine qDs [] [25] [(3, i6 (j1 : Int))] ?_
  obtain ⟨J1, hJ1, hm⟩ := bJ hm
  refine A.J (J := J1) (r := r) (fun v_1 => [(1, .ptr 60001 0), (23, i6 (t.aI.length:Int)), (24, i6 (j1 : Int)), (44, .bool v_1)]) (fun v_1 => [(60001, .cells 44 (k2 t))]) ?_ ?_
  ·rcases ai hm with ⟨c4,hm⟩|⟨c4,hm⟩
   ·obtain ⟨e_1, h2, hm⟩ := aa hm
    refine qGs [(2, hto (bE c4)), (7, hix (ix aU h2)), (13, hix (ix aU (bf hx1)))] [3] [(44, .bool (decide (e1.ID ≤ e_1.ID)))] ?_
    exact qX (decide (e1.ID ≤ e_1.ID)) hm
   refine qGs [(2, hto (bE c4))] [3] [(44, .bool false)] ?_
   exact qX false hm
  rintro v_1 hm
  rw [hJ1] at hm
  rcases ai hm with ⟨c5,hm⟩|⟨c5,hm⟩
  ·refine qT c5 ?_
   refine qS [] [(2, i6 25)] [] ?_
   cases hm
   exact A.ret qE
  refine qF c5 ?_
  refine A.skip ?_
  show ah _ _ _ _ _
  refine qGs [(0, hto (inc hx1 hb1))] [24, 44] [(24, i6 ((j1 + 1 : Nat) : Int))] ?_
  exact qX () hm
 rintro j1 ⟨⟩ hj1 hl1 hm
 rw [hK1] at hm
 refine qDs [] [] [(25, .bool (decide ((j1 : Int) < (t.aI.length:Int))))] ?_
 refine A.seq ?_
 refine qF (ltF hl1) ?_
 refine A.exit ?_
 show ah _ _ _ _ _
 refine qD [(1, .al 60004)] [23, 24, 25] [(4, .ptr 60004 0)] [] [(60004, .cells 75 [.fn 103 [.ptr 60001 0]])] ?_
 refine A.seq ?_
 refine A.block ?_
 obtain ⟨ay, h3, hm⟩ := aa hm
 refine qDs [(2, hro (eB (f_g := 107) (f_c := []) (f_k := atn) (f_f := fun _ _ h => ve h) h3) aed)] [] [(47, .bool ay)] ?_
 rcases ai hm with ⟨c6,hm⟩|⟨c6,hm⟩
 ·refine qT c6 ?_
  refine qS [] [(2, i6 2)] [] ?_
  cases hm
  exact A.ret qE
 refine qF c6 ?_
 obtain ⟨aK, h4, hm⟩ := aa hm
 refine qD [(3, hle [60004, 60001] (eB (f_g := 108) (f_c := [.dO [.fn 103 [.dO (k2 t)]]]) (f_k := ato) (f_f := fun _ _ h => vf h) h4) aed)] [4, 47] [(51, .bool aK)] [60004] [] ?_
 rcases ai hm with ⟨c7,hm⟩|⟨c7,hm⟩
 ·refine qT c7 ?_
  refine qS [] [(2, i6 4)] [] ?_
  cases hm
  exact A.ret qE
 refine qF c7 ?_
 obtain ⟨bh, h5, hm⟩ := aa hm
 refine qDs [(2, hro (eB (f_g := 109) (f_c := []) (f_k := atp) (f_f := fun _ _ h => vg h) h5) aed)] [51] [(56, .bool bh)] ?_
 rcases ai hm with ⟨c8,hm⟩|⟨c8,hm⟩
 ·refine qT c8 ?_
  refine qS [] [(2, i6 8)] [] ?_
  cases hm
  exact A.ret qE
 refine qF c8 ?_
 refine A.skip ?_
 show ah _ _ _ _ _
 refine A.seq ?_
 refine qDs [(2, hto (lnE az t.Links))] [56] [(62, i6 (t.Links.length:Int)), (63, i6 0)] ?_
 refine A.block ?_
 refine A.bC 1 1 rfl rfl rfl fun hb2 => ?_
 obtain ⟨B2, K2, hB2, hK2, hm⟩ := bt hm
 refine A.lpI (l := t.Links) (j0 := 0) (B := B2) (K := K2) hm (fun j2 => fun sg => match sg with | () => [(1, .ptr 60001 0), (62, i6 (t.Links.length:Int)), (63, i6 (j2 : Int))]) (fun j2 => fun sg => match sg with | () => [(60001, .cells 44 (k2 t))]) ?_ ?_ ?_
 ·exact qW
 ·rintro j2 e2 Z2 ⟨⟩ hj2 hx2 hm
  rw [hB2] at hm
  refine qDs [] [] [(64, .bool (decide ((j2 : Int) < (t.Links.length:Int))))] ?_
  refine A.seq ?_
  refine qT (ltT hx2) ?_
  refine A.skip ?_
  show ah _ _ _ _ _
  refine A.seq ?_
  refine A.block ?_
  refine qDs [] [64] [(5, i6 (j2 : Int))] ?_
  obtain ⟨J2, hJ2, hm⟩ := bJ hm
  refine A.J (J := J2) (r := r) (fun v_2 => [(1, .ptr 60001 0), (62, i6 (t.Links.length:Int)), (63, i6 (j2 : Int)), (82, .bool v_2)]) (fun v_2 => [(60001, .cells 44 (k2 t))]) ?_ ?_
  ·rcases ai hm with ⟨c9,hm⟩|⟨c9,hm⟩
   ·obtain ⟨e_2, h6, hm⟩ := aa hm
    obtain ⟨bI, h7, hm⟩ := aa hm
    refine qGs [(2, hto (bE c9)), (7, hix (ix az h6)), (12, hix (ix az (bf hx2))), (14, hro (pZ h7) aji)] [5] [(82, .bool (decide ((0:Int) ≤ bI)))] ?_
    exact qX (decide ((0:Int) ≤ bI)) hm
   refine qGs [(2, hto (bE c9))] [5] [(82, .bool false)] ?_
   exact qX false hm
  rintro v_2 hm
  rw [hJ2] at hm
  rcases ai hm with ⟨c10,hm⟩|⟨c10,hm⟩
  ·refine qT c10 ?_
   refine qS [] [(2, i6 25)] [] ?_
   cases hm
   exact A.ret qE
  refine qF c10 ?_
  refine A.skip ?_
  show ah _ _ _ _ _
  refine qGs [(0, hto (inc hx2 hb2))] [63, 82] [(63, i6 ((j2 + 1 : Nat) : Int))] ?_
  exact qX () hm
 rintro j2 ⟨⟩ hj2 hl2 hm
 rw [hK2] at hm
 refine qDs [] [] [(64, .bool (decide ((j2 : Int) < (t.Links.length:Int))))] ?_
 refine A.seq ?_
 refine qF (ltF hl2) ?_
 refine A.exit ?_
 show ah _ _ _ _ _
 refine qS [] [(2, i6 0)] [] ?_
 cases hm
 exact A.ret qE
theorem gB {t : aD} {r : Bool} (hm : fS t = some r) : RO Tryz.prog 139 [] [.agg (k2 t)] (.bool r) := by
 refine aT Tryz.func139 rfl rfl ?_
 unfold fS at hm
 refine qS [(0, .al 139001)] [(1, .ptr 139001 0)] [(139001, .cells 44 (k2 t))] ?_
 obtain ⟨af, h1, hm⟩ := aa hm
 refine qS [(1, hro (iH h1) ace)] [(2, .bool (decide (af = (0:Int))))] [] ?_
 cases hm
 exact A.ret qE
theorem rZ {t : aD} {aJ : Int} {r : aY × Bool} (hm : jv t aJ = some r) : RO Tryz.prog 150 [] [.agg (k2 t), i6 aJ] (.tup [.agg (k0 r.1), .bool r.2]) := by
 refine aT Tryz.func150 rfl rfl ?_
 unfold jv at hm
 refine qS [(0, .al 150002), (1, .al 150004)] [(1, i6 aJ), (2, .ptr 150002 0), (4, .ptr 150004 0)] [(150002, .cells 44 (k2 t)), (150004, .cells 87 [i6 0, .bool false])] ?_
 obtain ⟨af, h1, hm⟩ := aa hm
 refine qDs [(3, hro (eM (jb := 105) (kr := []) (pq := ajh) (pz := fun _ _ _ h => rY h) h1) ajg)] [1] [(6, i6 af.1), (7, .bool af.2)] ?_
 refine A.seq ?_
 refine qDs [] [7] [(16, .bool (!af.2))] ?_
 rcases ai hm with ⟨c1,hm⟩|⟨c1,hm⟩
 ·refine qT c1 ?_
  refine qD [] [2, 6, 16] [(5, .bool false)] [150002] [] ?_
  cases hm
  exact A.ret qE
 refine qF c1 ?_
 refine A.skip ?_
 show ah _ _ _ _ _
 obtain ⟨e_1, h2, hm⟩ := aa hm
 refine qS [(3, hix (ix aU h2))] [(4, .ptr 150004 0), (5, .bool true)] [(150004, .cells 87 (k0 e_1))] ?_
 cases hm
 exact A.ret qE
theorem gw {t : aD} {aJ : Int} {r : Bool} (hm : gO t aJ = some r) : RO Tryz.prog 121 [] [.agg (k2 t), i6 aJ] (.bool r) := by
 refine aT Tryz.func121 rfl rfl ?_
 unfold gO at hm
 refine qS [(0, .al 121002)] [(1, i6 aJ), (2, .ptr 121002 0)] [(121002, .cells 44 (k2 t))] ?_
 obtain ⟨af, h1, hm⟩ := aa hm
 refine qDs [(2, hro (rZ h1) ajn), (6, .al 121005)] [1] [(6, .bool af.2)] ?_
 obtain ⟨ay, h2, hm⟩ := aa hm
 rcases ai hm with ⟨c1,hm⟩|⟨c1,hm⟩
 ·refine qS [(1, hro (gB h2) x2), (2, hto (bE c1))] [(4, .bool af.2)] [] ?_
  cases hm
  exact A.ret qE
 refine qS [(1, hro (gB h2) x2), (2, hto (bE c1))] [(4, .bool false)] [] ?_
 cases hm
 exact A.ret qE
theorem vh {t : aD} {aJ : Int} {r : Bool} (hm : jl t aJ = some r) : RO Tryz.prog 149 [] [.agg (k2 t), i6 aJ] (.bool r) := by
 refine aT Tryz.func149 rfl rfl ?_
 unfold jl at hm
 refine qS [(0, .al 149002)] [(1, i6 aJ), (2, .ptr 149002 0)] [(149002, .cells 44 (k2 t))] ?_
 obtain ⟨af, h1, hm⟩ := aa hm
 refine qD [(2, hro (rZ h1) ajn), (6, .al 149005)] [1] [(5, .ptr 149005 0)] [] [(149005, .cells 87 (k0 af.1))] ?_
 obtain ⟨ay, h2, hm⟩ := aa hm
 rcases ai hm with ⟨c1,hm⟩|⟨c1,hm⟩
 ·refine qS [(1, hro (gB h2) x2), (2, hto (bE c1))] [(4, .bool af.1.aX)] [] ?_
  cases hm
  exact A.ret qE
 refine qS [(1, hro (gB h2) x2), (2, hto (bE c1))] [(4, .bool false)] [] ?_
 cases hm
 exact A.ret qE
theorem w9 {t : aD} {dX : Int} {ji : Int} {r : Int × Bool} (hm : jx t dX ji = some r) : RO Tryz.prog 89 [] [.agg (k2 t), i6 dX, i6 ji] (.tup [i6 r.1, .bool r.2]) := by
 refine aT Tryz.func89 rfl rfl ?_
 unfold jx at hm
 refine qS [(0, .al 89003)] [(1, i6 dX), (2, i6 ji), (3, .ptr 89003 0)] [(89003, .cells 44 (k2 t))] ?_
 refine A.seq ?_
 obtain ⟨af, h1, hm⟩ := aa hm
 refine qDs [(1, hro (gB h1) x2)] [] [(12, .bool (!af))] ?_
 rcases ai hm with ⟨c1,hm⟩|⟨c1,hm⟩
 ·refine qT c1 ?_
  refine qS [] [(6, i6 0), (7, .bool false)] [] ?_
  cases hm
  exact A.ret qE
 refine qF c1 ?_
 refine A.skip ?_
 show ah _ _ _ _ _
 obtain ⟨ay, h2, hm⟩ := aa hm
 refine qDs [(9, hro (iQ (jb := 110) (kr := []) (pq := aji) (pz := fun _ _ _ h => pZ h) h2) atF)] [12] [(8, i6 ay.1), (9, .bool ay.2)] ?_
 refine A.seq ?_
 refine A.block ?_
 refine qDs [] [9] [(26, .bool (!ay.2))] ?_
 rcases ai hm with ⟨c2,hm⟩|⟨c2,hm⟩
 ·refine qT c2 ?_
  refine qS [] [(6, i6 0), (7, .bool false)] [] ?_
  cases hm
  exact A.ret qE
 refine qF c2 ?_
 refine qDs [] [1, 2, 26] [(29, .bool (decide (dX < ji)))] ?_
 rcases ai hm with ⟨c3,hm⟩|⟨c3,hm⟩
 ·refine qT c3 ?_
  obtain ⟨e_1, h3, hm⟩ := aa hm
  refine qS [(3, hix (ix az h3))] [(6, i6 e_1.ja), (7, .bool true)] [] ?_
  cases hm
  exact A.ret qE
 refine qF c3 ?_
 refine A.skip ?_
 show ah _ _ _ _ _
 obtain ⟨e_2, h4, hm⟩ := aa hm
 refine qS [(3, hix (ix az h4))] [(6, i6 e_2.iF), (7, .bool true)] [] ?_
 cases hm
 exact A.ret qE
end Go.Proofs.YtpmifmdidfgpdaaGreat
