/- The iY of ee of the program. No condition but bL aY stand in each. -/
import Derived.Test.YtdjeacigeegklaaDA
namespace Go.Proofs.Ytdjeacigeegklaa
open Go
set_option maxRecDepth 100000
set_option linter.all false
theorem pK {xa0 : Int} {r : Bool} (hm : iJ xa0 = some r) : RO Try.prog 71 [] [i6 xa0] (.bool r) := by
 refine bO Try.func71 rfl rfl ?_
 unfold iJ at hm
 refine qS [] [(0, i6 xa0)] [] ?_
 refine qS [] [(2, .bool (!decide (xa0 = xa0)))] [] ?_
 cases hm
 exact A.ret qE
theorem ja {xa0 : Int} {y : Int} {r : Int} (hm : eo xa0 y = some r) : RO Try.prog 61 [] [i6 xa0, i6 y] (i6 r) := by
 refine bO Try.func61 rfl rfl ?_
 unfold eo at hm
 refine qS [] [(0, i6 xa0), (1, i6 y)] [] ?_
 obtain ⟨ay, h1, hm⟩ := af hm
 refine qDs [(1, hro (pK h1) aoe)] [] [(5, .bool ay)] ?_
 obtain ⟨aV, h2, hm⟩ := af hm
 refine qDs [(1, hro (pK h2) aoe)] [] [(6, .bool aV)] ?_
 refine A.seq ?_
 refine qDs [] [5] [(11, .bool ay)] ?_
 rcases aA hm with ⟨c1,hm⟩|⟨c1,hm⟩
 ·refine qT c1 ?_
  refine A.seq ?_
  refine qS [] [(12, .bool aV)] [] ?_
  rcases aA hm with ⟨c2,hm⟩|⟨c2,hm⟩
  ·refine qT c2 ?_
   refine qS [] [(4, i6 0)] [] ?_
   cases hm
   exact A.ret qE
  refine qF c2 ?_
  refine A.skip ?_
  show aj _ _ _ _ _
  refine qS [] [(4, i6 (-1))] [] ?_
  cases hm
  exact A.ret qE
 refine qF c1 ?_
 refine A.skip ?_
 show aj _ _ _ _ _
 refine A.seq ?_
 refine qDs [] [6, 11] [(13, .bool aV)] ?_
 rcases aA hm with ⟨c3,hm⟩|⟨c3,hm⟩
 ·refine qT c3 ?_
  refine qS [] [(4, i6 1)] [] ?_
  cases hm
  exact A.ret qE
 refine qF c3 ?_
 refine A.skip ?_
 show aj _ _ _ _ _
 refine A.seq ?_
 refine qDs [] [13] [(16, .bool (decide (xa0 < y)))] ?_
 rcases aA hm with ⟨c4,hm⟩|⟨c4,hm⟩
 ·refine qT c4 ?_
  refine qS [] [(4, i6 (-1))] [] ?_
  cases hm
  exact A.ret qE
 refine qF c4 ?_
 refine A.skip ?_
 show aj _ _ _ _ _
 refine A.seq ?_
 refine qS [] [(19, .bool (decide (y < xa0)))] [] ?_
 rcases aA hm with ⟨c5,hm⟩|⟨c5,hm⟩
 ·refine qT c5 ?_
  refine qS [] [(4, i6 1)] [] ?_
  cases hm
  exact A.ret qE
 refine qF c5 ?_
 refine A.skip ?_
 show aj _ _ _ _ _
 refine qS [] [(4, i6 0)] [] ?_
 cases hm
 exact A.ret qE
theorem xZ {vals : List Int} {r : Int} (hm : mm vals = some r) : RO Try.prog 63 [] [lf bx vals] (i6 r) := by
 refine bO Try.func63 rfl rfl ?_
 unfold mm at hm
 refine qS [] [(0, lf bx vals)] [] ?_
 refine qDs [] [] [(3, i6 0)] ?_
 refine A.seq ?_
 refine qDs [(1, hto (lnE bx vals))] [0] [(6, lf bx vals), (7, i6 (vals.length:Int)), (8, i6 0)] ?_
 refine A.block ?_
 refine A.bS 6 rfl fun hb1 => ?_
 obtain ⟨B1, K1, hB1, hK1, hm⟩ := bN hm
 refine A.lpI (l := vals) (j0 := 0) (B := B1) (K := K1) hm (fun j1 => fun sg => match sg with | () => [(3, i6 0), (6, lf bx vals), (7, i6 (vals.length:Int)), (8, i6 (j1 : Int))]) (fun j1 => fun sg => match sg with | () => []) ?_ ?_ ?_
 ·exact qW
 ·rintro j1 e1 Z1 ⟨⟩ hj1 hx1 hm
  rw [hB1] at hm
  refine qDs [] [] [(9, .bool (decide ((j1 : Int) < (vals.length:Int))))] ?_
  refine A.seq ?_
  refine qT (ltT hx1) ?_
  refine A.skip ?_
  show aj _ _ _ _ _
  refine A.seq ?_
  refine A.block ?_
  refine qDs [(0, hix (ix bx (b8 hx1)))] [9] [(5, i6 e1)] ?_
  refine qDs [] [] [(14, .bool (!decide (e1 = (0:Int))))] ?_
  rcases aA hm with ⟨c1,hm⟩|⟨c1,hm⟩
  ·refine qT c1 ?_
   refine qS [] [(2, i6 e1)] [] ?_
   cases hm
   exact A.ret qE
  refine qF c1 ?_
  refine A.skip ?_
  show aj _ _ _ _ _
  refine qGs [(0, hto (inc hx1 hb1))] [8, 5, 14] [(8, i6 ((j1 + 1 : Nat) : Int))] ?_
  exact qX () hm
 rintro j1 ⟨⟩ hj1 hl1 hm
 rw [hK1] at hm
 refine qDs [] [] [(9, .bool (decide ((j1 : Int) < (vals.length:Int))))] ?_
 refine A.seq ?_
 refine qF (ltF hl1) ?_
 refine A.exit ?_
 show aj _ _ _ _ _
 refine qS [] [(2, i6 0)] [] ?_
 cases hm
 exact A.ret qE
theorem eZ {xa0 : List aP} {target : Int} {cmp : aP → Int → Option Int} {l5 : Nat} {nw : List AV} (rS : bt Try.prog l5) (rT : ∀ (y0 : aP) (y1 : Int) (q : Int), cmp y0 y1 = some q → RO Try.prog l5 [] ([.agg (k0 y0), i6 y1] ++ nw) (i6 q)) {r : Int × Bool} (hm : cc xa0 target cmp = some r) : RO Try.prog 42 [] [lf aL xa0, i6 target, .cfn l5 nw] (.tup [i6 r.1, .bool r.2]) := by
 refine bO Try.func42 rfl rfl ?_
 unfold cc at hm
 refine qS [] [(0, lf aL xa0), (1, i6 target), (2, .cfn l5 nw)] [] ?_
 refine qDs [(1, hto (lnE aL xa0))] [] [(8, i6 (xa0.length:Int))] ?_
 refine qDs [] [] [(9, i6 0), (10, i6 (xa0.length:Int))] ?_
 refine A.seq ?_
 refine A.block ?_
 obtain ⟨F1, n1, hF1, hm⟩ := oT hm
 refine A.lpW (F := F1) hm (fun sg => match sg with | (i_1, j_1) => [(0, lf aL xa0), (1, i6 target), (2, .cfn l5 nw), (8, i6 (xa0.length:Int)), (9, i6 i_1), (10, i6 j_1)]) (fun sg => match sg with | (i_1, j_1) => []) ?_ ?_
 ·exact qW
 rintro Z1 ⟨i_1, j_1⟩ hm
 rw [hF1] at hm
 refine A.seq ?_
 refine qDs [] [] [(17, .bool (decide (i_1 < j_1)))] ?_
 rcases aA hm with ⟨c1,hm⟩|⟨c1,hm⟩
 ·refine qT c1 ?_
  refine A.skip ?_
  show aj _ _ _ _ _
  refine A.block ?_
  refine qDs [(4, .sh (1:Int) (by decide))] [17] [(11, i6 (w64 (Int.fdiv (IntKind.wrap .u64 (w64 (i_1 + j_1))) (2 ^ min (1:Int).toNat 64))))] ?_
  obtain ⟨e_1, h1, hm⟩ := af hm
  obtain ⟨ay, h2, hm⟩ := af hm
  refine qDs [(3, hix (ix aL h1)), (6, hrf (rT _ _ _ h2) rS)] [] [(31, .bool (decide (ay < (0:Int))))] ?_
  rcases aA hm with ⟨c2,hm⟩|⟨c2,hm⟩
  ·refine qT c2 ?_
   refine qGs [] [9, 11, 31] [(9, i6 (w64 ((w64 (Int.fdiv (IntKind.wrap .u64 (w64 (i_1 + j_1))) (2 ^ min (1:Int).toNat 64))) + (1:Int))))] ?_
   exact qX (w64 ((w64 (Int.fdiv (IntKind.wrap .u64 (w64 (i_1 + j_1))) (2 ^ min (1:Int).toNat 64))) + (1:Int)), j_1) hm
  refine qF c2 ?_
  refine qGs [] [10, 11, 31] [(10, i6 (w64 (Int.fdiv (IntKind.wrap .u64 (w64 (i_1 + j_1))) (2 ^ min (1:Int).toNat 64))))] ?_
  exact qX (i_1, w64 (Int.fdiv (IntKind.wrap .u64 (w64 (i_1 + j_1))) (2 ^ min (1:Int).toNat 64))) hm
 refine qF c1 ?_
 refine A.exit ?_
 show aj _ _ _ _ _
 rcases aA hm with ⟨c3,hm⟩|⟨c3,hm⟩
 ·obtain ⟨e_2, h3, hm⟩ := af hm
  obtain ⟨aV, h4, hm⟩ := af hm
  refine qS [(4, hto (bE c3)), (8, hix (ix aL h3)), (11, hrf (rT _ _ _ h4) rS)] [(6, i6 i_1), (7, .bool (decide (aV = (0:Int))))] [] ?_
  cases hm
  exact A.ret qE
 refine qS [(4, hto (bE c3))] [(6, i6 i_1), (7, .bool false)] [] ?_
 cases hm
 exact A.ret qE
theorem j7 {sa0 : List aP} {f : aP → Option Bool} {f_g : Nat} {f_c : List AV} (f_k : bt Try.prog f_g) (f_f : ∀ (y0 : aP) (q : Bool), f y0 = some q → RO Try.prog f_g [] ([.agg (k0 y0)] ++ f_c) (.bool q)) {r : Int} (hm : dO sa0 f = some r) : RO Try.prog 60 [] [lf aL sa0, .cfn f_g f_c] (i6 r) := by
 refine bO Try.func60 rfl rfl ?_
 unfold dO at hm
 refine qS [] [(0, lf aL sa0), (1, .cfn f_g f_c)] [] ?_
 refine A.seq ?_
 refine qDs [(1, hto (lnE aL sa0))] [] [(7, i6 (sa0.length:Int)), (8, i6 0)] ?_
 refine A.block ?_
 refine A.bS 0 rfl fun hb1 => ?_
 obtain ⟨B1, K1, hB1, hK1, hm⟩ := bN hm
 refine A.lpI (l := sa0) (j0 := 0) (B := B1) (K := K1) hm (fun j1 => fun sg => match sg with | () => [(0, lf aL sa0), (1, .cfn f_g f_c), (7, i6 (sa0.length:Int)), (8, i6 (j1 : Int))]) (fun j1 => fun sg => match sg with | () => []) ?_ ?_ ?_
 ·exact qW
 ·rintro j1 e1 Z1 ⟨⟩ hj1 hx1 hm
  rw [hB1] at hm
  refine qDs [] [] [(9, .bool (decide ((j1 : Int) < (sa0.length:Int))))] ?_
  refine A.seq ?_
  refine qT (ltT hx1) ?_
  refine A.skip ?_
  show aj _ _ _ _ _
  refine A.seq ?_
  refine A.block ?_
  refine qDs [] [9] [(5, i6 (j1 : Int))] ?_
  obtain ⟨ay, h1, hm⟩ := af hm
  refine qDs [(3, hix (ix aL (b8 hx1))), (5, hrf (f_f _ _ h1) f_k)] [] [(16, .bool ay)] ?_
  rcases aA hm with ⟨c1,hm⟩|⟨c1,hm⟩
  ·refine qT c1 ?_
   refine qS [] [(4, i6 (j1 : Int))] [] ?_
   cases hm
   exact A.ret qE
  refine qF c1 ?_
  refine A.skip ?_
  show aj _ _ _ _ _
  refine qGs [(0, hto (inc hx1 hb1))] [8, 5, 16] [(8, i6 ((j1 + 1 : Nat) : Int))] ?_
  exact qX () hm
 rintro j1 ⟨⟩ hj1 hl1 hm
 rw [hK1] at hm
 refine qDs [] [] [(9, .bool (decide ((j1 : Int) < (sa0.length:Int))))] ?_
 refine A.seq ?_
 refine qF (ltF hl1) ?_
 refine A.exit ?_
 show aj _ _ _ _ _
 refine qS [] [(4, i6 (-1))] [] ?_
 cases hm
 exact A.ret qE
theorem lD {sa0 : List bf} {f : bf → Option Bool} {f_g : Nat} {f_c : List AV} (f_k : bt Try.prog f_g) (f_f : ∀ (y0 : bf) (q : Bool), f y0 = some q → RO Try.prog f_g [] ([.agg (k1 y0)] ++ f_c) (.bool q)) {r : Int} (hm : ez sa0 f = some r) : RO Try.prog 62 [] [lf b9 sa0, .cfn f_g f_c] (i6 r) := by
 refine bO Try.func62 rfl rfl ?_
 unfold ez at hm
 refine qS [] [(0, lf b9 sa0), (1, .cfn f_g f_c)] [] ?_
 refine A.seq ?_
 refine qDs [(1, hto (lnE b9 sa0))] [] [(7, i6 (sa0.length:Int)), (8, i6 0)] ?_
 refine A.block ?_
 refine A.bS 0 rfl fun hb1 => ?_
 obtain ⟨B1, K1, hB1, hK1, hm⟩ := bN hm
 refine A.lpI (l := sa0) (j0 := 0) (B := B1) (K := K1) hm (fun j1 => fun sg => match sg with | () => [(0, lf b9 sa0), (1, .cfn f_g f_c), (7, i6 (sa0.length:Int)), (8, i6 (j1 : Int))]) (fun j1 => fun sg => match sg with | () => []) ?_ ?_ ?_
 ·exact qW
 ·rintro j1 e1 Z1 ⟨⟩ hj1 hx1 hm
  rw [hB1] at hm
  refine qDs [] [] [(9, .bool (decide ((j1 : Int) < (sa0.length:Int))))] ?_
  refine A.seq ?_
  refine qT (ltT hx1) ?_
  refine A.skip ?_
  show aj _ _ _ _ _
  refine A.seq ?_
  refine A.block ?_
  refine qDs [] [9] [(5, i6 (j1 : Int))] ?_
  obtain ⟨ay, h1, hm⟩ := af hm
  refine qDs [(3, hix (ix b9 (b8 hx1))), (5, hrf (f_f _ _ h1) f_k)] [] [(16, .bool ay)] ?_
  rcases aA hm with ⟨c1,hm⟩|⟨c1,hm⟩
  ·refine qT c1 ?_
   refine qS [] [(4, i6 (j1 : Int))] [] ?_
   cases hm
   exact A.ret qE
  refine qF c1 ?_
  refine A.skip ?_
  show aj _ _ _ _ _
  refine qGs [(0, hto (inc hx1 hb1))] [8, 5, 16] [(8, i6 ((j1 + 1 : Nat) : Int))] ?_
  exact qX () hm
 rintro j1 ⟨⟩ hj1 hl1 hm
 rw [hK1] at hm
 refine qDs [] [] [(9, .bool (decide ((j1 : Int) < (sa0.length:Int))))] ?_
 refine A.seq ?_
 refine qF (ltF hl1) ?_
 refine A.exit ?_
 show aj _ _ _ _ _
 refine qS [] [(4, i6 (-1))] [] ?_
 cases hm
 exact A.ret qE
theorem gZ {xa0 : List bf} {target : bf} {cmp : bf → bf → Option Int} {l5 : Nat} {nw : List AV} (rS : bt Try.prog l5) (rT : ∀ (y0 : bf) (y1 : bf) (q : Int), cmp y0 y1 = some q → RO Try.prog l5 [] ([.agg (k1 y0), .agg (k1 y1)] ++ nw) (i6 q)) {r : Int × Bool} (hm : cu xa0 target cmp = some r) : RO Try.prog 69 [] [lf b9 xa0, .agg (k1 target), .cfn l5 nw] (.tup [i6 r.1, .bool r.2]) := by
 refine bO Try.func69 rfl rfl ?_
 unfold cu at hm
 refine qS [(0, .al 69004)] [(0, lf b9 xa0), (2, .cfn l5 nw), (4, .ptr 69004 0)] [(69004, .cells 80 (k1 target))] ?_
 refine qDs [(1, hto (lnE b9 xa0))] [] [(8, i6 (xa0.length:Int))] ?_
 refine qDs [] [] [(9, i6 0), (10, i6 (xa0.length:Int))] ?_
 refine A.seq ?_
 refine A.block ?_
 obtain ⟨F1, n1, hF1, hm⟩ := oT hm
 refine A.lpW (F := F1) hm (fun sg => match sg with | (i_1, j_1) => [(0, lf b9 xa0), (2, .cfn l5 nw), (4, .ptr 69004 0), (8, i6 (xa0.length:Int)), (9, i6 i_1), (10, i6 j_1)]) (fun sg => match sg with | (i_1, j_1) => [(69004, .cells 80 (k1 target))]) ?_ ?_
 ·exact qW
 rintro Z1 ⟨i_1, j_1⟩ hm
 rw [hF1] at hm
 refine A.seq ?_
 refine qDs [] [] [(17, .bool (decide (i_1 < j_1)))] ?_
 rcases aA hm with ⟨c1,hm⟩|⟨c1,hm⟩
 ·refine qT c1 ?_
  refine A.skip ?_
  show aj _ _ _ _ _
  refine A.block ?_
  refine qDs [(4, .sh (1:Int) (by decide))] [17] [(11, i6 (w64 (Int.fdiv (IntKind.wrap .u64 (w64 (i_1 + j_1))) (2 ^ min (1:Int).toNat 64))))] ?_
  obtain ⟨e_1, h1, hm⟩ := af hm
  obtain ⟨ay, h2, hm⟩ := af hm
  refine qDs [(3, hix (ix b9 h1)), (6, hrf (rT _ _ _ h2) rS)] [] [(31, .bool (decide (ay < (0:Int))))] ?_
  rcases aA hm with ⟨c2,hm⟩|⟨c2,hm⟩
  ·refine qT c2 ?_
   refine qGs [] [9, 11, 31] [(9, i6 (w64 ((w64 (Int.fdiv (IntKind.wrap .u64 (w64 (i_1 + j_1))) (2 ^ min (1:Int).toNat 64))) + (1:Int))))] ?_
   exact qX (w64 ((w64 (Int.fdiv (IntKind.wrap .u64 (w64 (i_1 + j_1))) (2 ^ min (1:Int).toNat 64))) + (1:Int)), j_1) hm
  refine qF c2 ?_
  refine qGs [] [10, 11, 31] [(10, i6 (w64 (Int.fdiv (IntKind.wrap .u64 (w64 (i_1 + j_1))) (2 ^ min (1:Int).toNat 64))))] ?_
  exact qX (i_1, w64 (Int.fdiv (IntKind.wrap .u64 (w64 (i_1 + j_1))) (2 ^ min (1:Int).toNat 64))) hm
 refine qF c1 ?_
 refine A.exit ?_
 show aj _ _ _ _ _
 rcases aA hm with ⟨c3,hm⟩|⟨c3,hm⟩
 ·obtain ⟨e_2, h3, hm⟩ := af hm
  obtain ⟨aV, h4, hm⟩ := af hm
  refine qS [(4, hto (bE c3)), (8, hix (ix b9 h3)), (11, hrf (rT _ _ _ h4) rS)] [(6, i6 i_1), (7, .bool (decide (aV = (0:Int))))] [] ?_
  cases hm
  exact A.ret qE
 refine qS [(4, hto (bE c3))] [(6, i6 i_1), (7, .bool false)] [] ?_
 cases hm
 exact A.ret qE
theorem jx {sa0 : List aP} {f : aP → Option Bool} {f_g : Nat} {f_c : List AV} (f_k : bt Try.prog f_g) (f_f : ∀ (y0 : aP) (q : Bool), f y0 = some q → RO Try.prog f_g [] ([.agg (k0 y0)] ++ f_c) (.bool q)) {r : Bool} (hm : cR sa0 f = some r) : RO Try.prog 38 [] [lf aL sa0, .cfn f_g f_c] (.bool r) := by
 refine bO Try.func38 rfl rfl ?_
 unfold cR at hm
 refine qS [] [(0, lf aL sa0), (1, .cfn f_g f_c)] [] ?_
 obtain ⟨ay, h1, hm⟩ := af hm
 refine qS [(2, hro (j7 (f_k := f_k) (f_f := f_f) h1) ck60)] [(4, .bool (decide ((0:Int) ≤ ay)))] [] ?_
 cases hm
 exact A.ret qE
theorem eS {sa0 : List bf} {f : bf → Option Bool} {f_g : Nat} {f_c : List AV} (f_k : bt Try.prog f_g) (f_f : ∀ (y0 : bf) (q : Bool), f y0 = some q → RO Try.prog f_g [] ([.agg (k1 y0)] ++ f_c) (.bool q)) {r : Bool} (hm : ct sa0 f = some r) : RO Try.prog 44 [] [lf b9 sa0, .cfn f_g f_c] (.bool r) := by
 refine bO Try.func44 rfl rfl ?_
 unfold ct at hm
 refine qS [] [(0, lf b9 sa0), (1, .cfn f_g f_c)] [] ?_
 obtain ⟨ay, h1, hm⟩ := af hm
 refine qS [(2, hro (lD (f_k := f_k) (f_f := f_f) h1) ck62)] [(4, .bool (decide ((0:Int) ≤ ay)))] [] ?_
 cases hm
 exact A.ret qE
theorem gq {n : Int} {least : Int} {most : Int} {r : Bool} (hm : gR n least most = some r) : RO Try.prog 40 [] [i6 n, i6 least, i6 most] (.bool r) := by
 refine bO Try.func40 rfl rfl ?_
 unfold gR at hm
 refine qS [] [(0, i6 n), (1, i6 least), (2, i6 most)] [] ?_
 refine A.mid [(6, .bool ((decide (least ≤ n)) && (decide (n ≤ most))))] [] (fun hk => ?_) ?_
 ·rcases tf (decide (least ≤ n)) with c1 | c1
  ·exact qS [(3, hto (bE c1)), (8, hto (mM (q := decide (n ≤ most)) c1))] _ _ hk
  exact qS [(3, hto (bE c1)), (8, hto (oD (q := decide (n ≤ most)) c1))] _ _ hk
 cases hm
 exact A.ret qE
theorem nO {a : bf} {b : bf} {r : Int} (hm : gw a b = some r) : RO Try.prog 48 [] [.agg (k1 a), .agg (k1 b)] (i6 r) := by
 refine bO Try.func48 rfl rfl ?_
 unfold gw at hm
 refine qS [(0, .al 48002), (1, .al 48003)] [(2, .ptr 48002 0), (3, .ptr 48003 0)] [(48002, .cells 80 (k1 a)), (48003, .cells 80 (k1 b))] ?_
 obtain ⟨ay, h1, hm⟩ := af hm
 obtain ⟨aV, h2, hm⟩ := af hm
 obtain ⟨bu, h3, hm⟩ := af hm
 refine qS [(4, hro (ja h1) ab6), (9, hro (ja h2) ab6), (11, hro (xZ h3) ck63)] [(4, i6 bu)] [] ?_
 cases hm
 exact A.ret qE
theorem pL {ra0 : aP} {id : Int} {r : Int} (hm : iK ra0 id = some r) : RO Try.prog 43 [] [.agg (k0 ra0), i6 id] (i6 r) := by
 refine bO Try.func43 rfl rfl ?_
 unfold iK at hm
 refine qS [(0, .al 43002)] [(1, i6 id), (2, .ptr 43002 0)] [(43002, .cells 50 (k0 ra0))] ?_
 obtain ⟨ay, h1, hm⟩ := af hm
 refine qS [(3, hro (ja h1) ab6)] [(4, i6 ay)] [] ?_
 cases hm
 exact A.ret qE
theorem sS {ra0 : aP} {r : Bool} (hm : jN ra0 = some r) : RO Try.prog 39 [] [.agg (k0 ra0)] (.bool r) := by
 refine bO Try.func39 rfl rfl ?_
 unfold jN at hm
 refine qS [(0, .al 39001)] [(1, .ptr 39001 0)] [(39001, .cells 50 (k0 ra0))] ?_
 obtain ⟨ay, h1, hm⟩ := af hm
 refine qS [(2, hro (gq h1) w9)] [(2, .bool (!ay))] [] ?_
 cases hm
 exact A.ret qE
theorem sU {l : bf} {r : Bool} (hm : iE l = some r) : RO Try.prog 45 [] [.agg (k1 l)] (.bool r) := by
 refine bO Try.func45 rfl rfl ?_
 unfold iE at hm
 refine qS [(0, .al 45001)] [(1, .ptr 45001 0)] [(45001, .cells 80 (k1 l))] ?_
 obtain ⟨ay, h1, hm⟩ := af hm
 rcases aA hm with ⟨c1,hm⟩|⟨c1,hm⟩
 ·refine qS [(2, hro (gq h1) w9), (4, hto (bE c1))] [(2, .bool true)] [] ?_
  cases hm
  exact A.ret qE
 obtain ⟨aV, h2, hm⟩ := af hm
 rcases aA hm with ⟨c2,hm⟩|⟨c2,hm⟩
 ·refine qS [(2, hro (gq h1) w9), (4, hto (bE c1)), (7, hro (gq h2) w9), (10, hto (bE c2))] [(2, .bool true)] [] ?_
  cases hm
  exact A.ret qE
 obtain ⟨bu, h3, hm⟩ := af hm
 refine qS [(2, hro (gq h1) w9), (4, hto (bE c1)), (7, hro (gq h2) w9), (10, hto (bE c2)), (13, hro (gq h3) w9)] [(2, .bool (!bu))] [] ?_
 cases hm
 exact A.ret qE
theorem kK {id : Int} {c_0 : aa} {r : Bool} (hm : gx id c_0 = some r) : RO Try.prog 41 [] [i6 id, .eP (k2 c_0)] (.bool r) := by
 refine bO Try.func41 rfl rfl ?_
 unfold gx at hm
 refine qS [] [(0, i6 id), (1, .eP (k2 c_0))] [] ?_
 obtain ⟨ay, h1, hm⟩ := af hm
 refine qS [(3, hro (eZ (l5 := 43) (nw := []) (rS := aob) (rT := fun _ _ _ h => pL h) h1) aoa)] [(5, .bool ay.2)] [] ?_
 refine qS [] [(3, .bool (!ay.2))] [] ?_
 cases hm
 exact A.ret qE
theorem sV {l : bf} {c_0 : aa} {r : Bool} (hm : jO l c_0 = some r) : RO Try.prog 46 [] [.agg (k1 l), .eP [.fn 41 [.eP (k2 c_0)]]] (.bool r) := by
 refine bO Try.func46 rfl rfl ?_
 unfold jO at hm
 refine qS [(0, .al 46002)] [(1, .eP [.fn 41 [.eP (k2 c_0)]]), (2, .ptr 46002 0)] [(46002, .cells 80 (k1 l))] ?_
 obtain ⟨ay, h1, hm⟩ := af hm
 rcases aA hm with ⟨c1,hm⟩|⟨c1,hm⟩
 ·refine qS [(3, hle [] (kK h1) afr), (4, hto (bE c1))] [(3, .bool true)] [] ?_
  cases hm
  exact A.ret qE
 obtain ⟨aV, h2, hm⟩ := af hm
 refine qS [(3, hle [] (kK h1) afr), (4, hto (bE c1)), (8, hle [] (kK h2) afr)] [(3, .bool aV)] [] ?_
 cases hm
 exact A.ret qE
theorem sW {l : bf} {r : Bool} (hm : jP l = some r) : RO Try.prog 47 [] [.agg (k1 l)] (.bool r) := by
 refine bO Try.func47 rfl rfl ?_
 unfold jP at hm
 refine qS [(0, .al 47001)] [(1, .ptr 47001 0)] [(47001, .cells 80 (k1 l))] ?_
 refine qS [] [(2, .bool (decide (l.B ≤ l.A)))] [] ?_
 cases hm
 exact A.ret qE
theorem jv {t : aa} {r : Int} (hm : gp t = some r) : RO Try.prog 21 [] [.agg (k2 t)] (i6 r) := by
 refine bO Try.func21 rfl rfl ?_
 unfold gp at hm
 refine qS [(0, .al 21001)] [(1, .ptr 21001 0)] [(21001, .cells 28 (k2 t))] ?_
 refine A.seq ?_
 refine A.block ?_
 refine A.mid [(1, .ptr 21001 0), (6, .bool ((decide ((24:Int) < (t.aC.length:Int))) || (decide ((60:Int) < (t.Links.length:Int)))))] [(21001, .cells 28 (k2 t))] (fun hk => ?_) ?_
 ·rcases tf (decide ((24:Int) < (t.aC.length:Int))) with c1 | c1
  ·exact qS [(2, hto (lnE aL t.aC)), (4, hto (bE c1)), (10, hto (orT (q := decide ((60:Int) < (t.Links.length:Int))) c1))] _ _ hk
  exact qS [(2, hto (lnE aL t.aC)), (4, hto (bE c1)), (7, hto (lnE b9 t.Links)), (10, hto (orF (q := decide ((60:Int) < (t.Links.length:Int))) c1))] _ _ hk
 rcases aA hm with ⟨c2,hm⟩|⟨c2,hm⟩
 ·refine qT c2 ?_
  refine qS [] [(2, i6 3)] [] ?_
  cases hm
  exact A.ret qE
 refine qF c2 ?_
 obtain ⟨ay, h1, hm⟩ := af hm
 refine qDs [(2, hro (jx (f_g := 39) (f_c := []) (f_k := ck39) (f_f := fun _ _ h => sS h) h1) ck38)] [6] [(17, .bool ay)] ?_
 rcases aA hm with ⟨c3,hm⟩|⟨c3,hm⟩
 ·refine qT c3 ?_
  refine qS [] [(2, i6 2)] [] ?_
  cases hm
  exact A.ret qE
 refine qF c3 ?_
 refine A.skip ?_
 show aj _ _ _ _ _
 refine A.seq ?_
 refine qDs [(2, hto (lnE aL t.aC))] [17] [(23, i6 (t.aC.length:Int)), (24, i6 0)] ?_
 refine A.block ?_
 refine A.bC 1 0 rfl rfl rfl fun hb1 => ?_
 obtain ⟨B1, K1, hB1, hK1, hm⟩ := bN hm
 refine A.lpI (l := t.aC) (j0 := 0) (B := B1) (K := K1) hm (fun j1 => fun sg => match sg with | () => [(1, .ptr 21001 0), (23, i6 (t.aC.length:Int)), (24, i6 (j1 : Int))]) (fun j1 => fun sg => match sg with | () => [(21001, .cells 28 (k2 t))]) ?_ ?_ ?_
 ·exact qW
 ·rintro j1 e1 Z1 ⟨⟩ hj1 hx1 hm
  rw [hB1] at hm
  refine qDs [] [] [(25, .bool (decide ((j1 : Int) < (t.aC.length:Int))))] ?_
  refine A.seq ?_
  refine qT (ltT hx1) ?_
  refine A.skip ?_
  show aj _ _ _ _ _
  refine A.seq ?_
  refine A.block ?_
  refine qDs [] [25] [(3, i6 (j1 : Int))] ?_
  obtain ⟨J1, hJ1, hm⟩ := cD hm
  refine A.J (J := J1) (r := r) (fun v_1 => [(1, .ptr 21001 0), (23, i6 (t.aC.length:Int)), (24, i6 (j1 : Int)), (44, .bool v_1)]) (fun v_1 => [(21001, .cells 28 (k2 t))]) ?_ ?_
  ·rcases aA hm with ⟨c4,hm⟩|⟨c4,hm⟩
   ·obtain ⟨e_1, h2, hm⟩ := af hm
    refine qGs [(2, hto (bE c4)), (7, hix (ix aL h2)), (13, hix (ix aL (b8 hx1)))] [3] [(44, .bool (decide (e1.ID ≤ e_1.ID)))] ?_
    exact qX (decide (e1.ID ≤ e_1.ID)) hm
   refine qGs [(2, hto (bE c4))] [3] [(44, .bool false)] ?_
   exact qX false hm
  rintro v_1 hm
  rw [hJ1] at hm
  rcases aA hm with ⟨c5,hm⟩|⟨c5,hm⟩
  ·refine qT c5 ?_
   refine qS [] [(2, i6 25)] [] ?_
   cases hm
   exact A.ret qE
  refine qF c5 ?_
  refine A.skip ?_
  show aj _ _ _ _ _
  refine qGs [(0, hto (inc hx1 hb1))] [24, 44] [(24, i6 ((j1 + 1 : Nat) : Int))] ?_
  exact qX () hm
 rintro j1 ⟨⟩ hj1 hl1 hm
 rw [hK1] at hm
 refine qDs [] [] [(25, .bool (decide ((j1 : Int) < (t.aC.length:Int))))] ?_
 refine A.seq ?_
 refine qF (ltF hl1) ?_
 refine A.exit ?_
 show aj _ _ _ _ _
 refine qD [(1, .al 21004)] [23, 24, 25] [(4, .ptr 21004 0)] [] [(21004, .cells 101 [.fn 41 [.ptr 21001 0]])] ?_
 refine A.seq ?_
 refine A.block ?_
 obtain ⟨aV, h3, hm⟩ := af hm
 refine qDs [(2, hro (eS (f_g := 45) (f_c := []) (f_k := ck45) (f_f := fun _ _ h => sU h) h3) afs)] [] [(47, .bool aV)] ?_
 rcases aA hm with ⟨c6,hm⟩|⟨c6,hm⟩
 ·refine qT c6 ?_
  refine qS [] [(2, i6 2)] [] ?_
  cases hm
  exact A.ret qE
 refine qF c6 ?_
 obtain ⟨bu, h4, hm⟩ := af hm
 refine qD [(3, hle [21004, 21001] (eS (f_g := 46) (f_c := [.eP [.fn 41 [.eP (k2 t)]]]) (f_k := ck46) (f_f := fun _ _ h => sV h) h4) afs)] [4, 47] [(51, .bool bu)] [21004] [] ?_
 rcases aA hm with ⟨c7,hm⟩|⟨c7,hm⟩
 ·refine qT c7 ?_
  refine qS [] [(2, i6 4)] [] ?_
  cases hm
  exact A.ret qE
 refine qF c7 ?_
 obtain ⟨aK, h5, hm⟩ := af hm
 refine qDs [(2, hro (eS (f_g := 47) (f_c := []) (f_k := ck47) (f_f := fun _ _ h => sW h) h5) afs)] [51] [(56, .bool aK)] ?_
 rcases aA hm with ⟨c8,hm⟩|⟨c8,hm⟩
 ·refine qT c8 ?_
  refine qS [] [(2, i6 8)] [] ?_
  cases hm
  exact A.ret qE
 refine qF c8 ?_
 refine A.skip ?_
 show aj _ _ _ _ _
 refine A.seq ?_
 refine qDs [(2, hto (lnE b9 t.Links))] [56] [(62, i6 (t.Links.length:Int)), (63, i6 0)] ?_
 refine A.block ?_
 refine A.bC 1 1 rfl rfl rfl fun hb2 => ?_
 obtain ⟨B2, K2, hB2, hK2, hm⟩ := bN hm
 refine A.lpI (l := t.Links) (j0 := 0) (B := B2) (K := K2) hm (fun j2 => fun sg => match sg with | () => [(1, .ptr 21001 0), (62, i6 (t.Links.length:Int)), (63, i6 (j2 : Int))]) (fun j2 => fun sg => match sg with | () => [(21001, .cells 28 (k2 t))]) ?_ ?_ ?_
 ·exact qW
 ·rintro j2 e2 Z2 ⟨⟩ hj2 hx2 hm
  rw [hB2] at hm
  refine qDs [] [] [(64, .bool (decide ((j2 : Int) < (t.Links.length:Int))))] ?_
  refine A.seq ?_
  refine qT (ltT hx2) ?_
  refine A.skip ?_
  show aj _ _ _ _ _
  refine A.seq ?_
  refine A.block ?_
  refine qDs [] [64] [(5, i6 (j2 : Int))] ?_
  obtain ⟨J2, hJ2, hm⟩ := cD hm
  refine A.J (J := J2) (r := r) (fun v_2 => [(1, .ptr 21001 0), (62, i6 (t.Links.length:Int)), (63, i6 (j2 : Int)), (82, .bool v_2)]) (fun v_2 => [(21001, .cells 28 (k2 t))]) ?_ ?_
  ·rcases aA hm with ⟨c9,hm⟩|⟨c9,hm⟩
   ·obtain ⟨e_2, h6, hm⟩ := af hm
    obtain ⟨cO, h7, hm⟩ := af hm
    refine qGs [(2, hto (bE c9)), (7, hix (ix b9 h6)), (12, hix (ix b9 (b8 hx2))), (14, hro (nO h7) aoc)] [5] [(82, .bool (decide ((0:Int) ≤ cO)))] ?_
    exact qX (decide ((0:Int) ≤ cO)) hm
   refine qGs [(2, hto (bE c9))] [5] [(82, .bool false)] ?_
   exact qX false hm
  rintro v_2 hm
  rw [hJ2] at hm
  rcases aA hm with ⟨c10,hm⟩|⟨c10,hm⟩
  ·refine qT c10 ?_
   refine qS [] [(2, i6 25)] [] ?_
   cases hm
   exact A.ret qE
  refine qF c10 ?_
  refine A.skip ?_
  show aj _ _ _ _ _
  refine qGs [(0, hto (inc hx2 hb2))] [63, 82] [(63, i6 ((j2 + 1 : Nat) : Int))] ?_
  exact qX () hm
 rintro j2 ⟨⟩ hj2 hl2 hm
 rw [hK2] at hm
 refine qDs [] [] [(64, .bool (decide ((j2 : Int) < (t.Links.length:Int))))] ?_
 refine A.seq ?_
 refine qF (ltF hl2) ?_
 refine A.exit ?_
 show aj _ _ _ _ _
 refine qS [] [(2, i6 0)] [] ?_
 cases hm
 exact A.ret qE
theorem lU {t : aa} {r : Bool} (hm : gY t = some r) : RO Try.prog 52 [] [.agg (k2 t)] (.bool r) := by
 refine bO Try.func52 rfl rfl ?_
 unfold gY at hm
 refine qS [(0, .al 52001)] [(1, .ptr 52001 0)] [(52001, .cells 28 (k2 t))] ?_
 obtain ⟨ay, h1, hm⟩ := af hm
 refine qS [(1, hro (jv h1) ab4)] [(2, .bool (decide (ay = (0:Int))))] [] ?_
 cases hm
 exact A.ret qE
theorem uW {t : aa} {bW : Int} {r : aP × Bool} (hm : jQ t bW = some r) : RO Try.prog 51 [] [.agg (k2 t), i6 bW] (.tup [.agg (k0 r.1), .bool r.2]) := by
 refine bO Try.func51 rfl rfl ?_
 unfold jQ at hm
 refine qS [(0, .al 51002), (1, .al 51004)] [(1, i6 bW), (2, .ptr 51002 0), (4, .ptr 51004 0)] [(51002, .cells 28 (k2 t)), (51004, .cells 50 [i6 0, .bool false])] ?_
 obtain ⟨ay, h1, hm⟩ := af hm
 refine qDs [(3, hro (eZ (l5 := 43) (nw := []) (rS := aob) (rT := fun _ _ _ h => pL h) h1) aoa)] [1] [(6, i6 ay.1), (7, .bool ay.2)] ?_
 refine A.seq ?_
 refine qDs [] [7] [(16, .bool (!ay.2))] ?_
 rcases aA hm with ⟨c1,hm⟩|⟨c1,hm⟩
 ·refine qT c1 ?_
  refine qD [] [2, 6, 16] [(5, .bool false)] [51002] [] ?_
  cases hm
  exact A.ret qE
 refine qF c1 ?_
 refine A.skip ?_
 show aj _ _ _ _ _
 obtain ⟨e_1, h2, hm⟩ := af hm
 refine qS [(3, hix (ix aL h2))] [(4, .ptr 51004 0), (5, .bool true)] [(51004, .cells 50 (k0 e_1))] ?_
 cases hm
 exact A.ret qE
theorem vV {t : aa} {bW : Int} {r : Bool} (hm : kJ t bW = some r) : RO Try.prog 23 [] [.agg (k2 t), i6 bW] (.bool r) := by
 refine bO Try.func23 rfl rfl ?_
 unfold kJ at hm
 refine qS [(0, .al 23002)] [(1, i6 bW), (2, .ptr 23002 0)] [(23002, .cells 28 (k2 t))] ?_
 obtain ⟨ay, h1, hm⟩ := af hm
 refine qDs [(2, hro (uW h1) ck51), (6, .al 23005)] [1] [(6, .bool ay.2)] ?_
 obtain ⟨aV, h2, hm⟩ := af hm
 rcases aA hm with ⟨c1,hm⟩|⟨c1,hm⟩
 ·refine qS [(1, hro (lU h2) aft), (2, hto (bE c1))] [(4, .bool ay.2)] [] ?_
  cases hm
  exact A.ret qE
 refine qS [(1, hro (lU h2) aft), (2, hto (bE c1))] [(4, .bool false)] [] ?_
 cases hm
 exact A.ret qE
theorem uX {t : aa} {cI : Int} {fD : Int} {r : Int × Bool} (hm : jR t cI fD = some r) : RO Try.prog 55 [] [.agg (k2 t), i6 cI, i6 fD] (.tup [i6 r.1, .bool r.2]) := by
 refine bO Try.func55 rfl rfl ?_
 unfold jR at hm
 refine qS [(0, .al 55003)] [(1, i6 cI), (2, i6 fD), (3, .ptr 55003 0)] [(55003, .cells 28 (k2 t))] ?_
 refine A.seq ?_
 obtain ⟨ay, h1, hm⟩ := af hm
 refine qDs [(1, hro (lU h1) aft)] [] [(12, .bool (!ay))] ?_
 rcases aA hm with ⟨c1,hm⟩|⟨c1,hm⟩
 ·refine qT c1 ?_
  refine qS [] [(6, i6 0), (7, .bool false)] [] ?_
  cases hm
  exact A.ret qE
 refine qF c1 ?_
 refine A.skip ?_
 show aj _ _ _ _ _
 obtain ⟨aV, h2, hm⟩ := af hm
 refine qDs [(9, hro (gZ (l5 := 48) (nw := []) (rS := aoc) (rT := fun _ _ _ h => nO h) h2) ck69)] [12] [(8, i6 aV.1), (9, .bool aV.2)] ?_
 refine A.seq ?_
 refine A.block ?_
 refine qDs [] [9] [(26, .bool (!aV.2))] ?_
 rcases aA hm with ⟨c2,hm⟩|⟨c2,hm⟩
 ·refine qT c2 ?_
  refine qS [] [(6, i6 0), (7, .bool false)] [] ?_
  cases hm
  exact A.ret qE
 refine qF c2 ?_
 refine qDs [] [1, 2, 26] [(29, .bool (decide (cI < fD)))] ?_
 rcases aA hm with ⟨c3,hm⟩|⟨c3,hm⟩
 ·refine qT c3 ?_
  obtain ⟨e_1, h3, hm⟩ := af hm
  refine qS [(3, hix (ix b9 h3))] [(6, i6 e_1.jL), (7, .bool true)] [] ?_
  cases hm
  exact A.ret qE
 refine qF c3 ?_
 refine A.skip ?_
 show aj _ _ _ _ _
 obtain ⟨e_2, h4, hm⟩ := af hm
 refine qS [(3, hix (ix b9 h4))] [(6, i6 e_2.jM), (7, .bool true)] [] ?_
 cases hm
 exact A.ret qE
end Go.Proofs.Ytdjeacigeegklaa
