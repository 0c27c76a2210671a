/- The jt of dK of the program. No condition but bR bw stand in each. -/
import Derived.Test.YtmfehenfoepkfaaDA
namespace Go.Proofs.Ytmfehenfoepkfaa
open Go
set_option maxRecDepth 100000
set_option linter.all false
theorem fh {xa0 : Int} {r : Bool} (hm : fH xa0 = some r) : RO Try.prog 71 [] [i6 xa0] (.bool r) := by
 refine aZ Try.func71 rfl rfl ?_
 unfold fH at hm
 refine qS [] [(0, i6 xa0)] [] ?_
 refine qS [] [(2, .bool (!decide (xa0 = xa0)))] [] ?_
 cases hm
 exact A.ret qE
theorem gD {xa0 : Int} {y : Int} {r : Int} (hm : dY xa0 y = some r) : RO Try.prog 47 [] [i6 xa0, i6 y] (i6 r) := by
 refine aZ Try.func47 rfl rfl ?_
 unfold dY at hm
 refine qS [] [(0, i6 xa0), (1, i6 y)] [] ?_
 obtain ⟨ak, h1, hm⟩ := aa hm
 refine qDs [(1, hro (fh h1) xg)] [] [(5, .bool ak)] ?_
 obtain ⟨aF, h2, hm⟩ := aa hm
 refine qDs [(1, hro (fh h2) xg)] [] [(6, .bool aF)] ?_
 refine A.seq ?_
 refine qDs [] [5] [(11, .bool ak)] ?_
 rcases aq hm with ⟨c1,hm⟩|⟨c1,hm⟩
 ·refine qT c1 ?_
  refine A.seq ?_
  refine qS [] [(12, .bool aF)] [] ?_
  rcases aq hm with ⟨c2,hm⟩|⟨c2,hm⟩
  ·refine qT c2 ?_
   refine qS [] [(4, i6 0)] [] ?_
   cases hm
   exact A.ret qE
  refine qF c2 ?_
  refine A.skip ?_
  show ah _ _ _ _ _
  refine qS [] [(4, i6 (-1))] [] ?_
  cases hm
  exact A.ret qE
 refine qF c1 ?_
 refine A.skip ?_
 show ah _ _ _ _ _
 refine A.seq ?_
 refine qDs [] [6, 11] [(13, .bool aF)] ?_
 rcases aq hm with ⟨c3,hm⟩|⟨c3,hm⟩
 ·refine qT c3 ?_
  refine qS [] [(4, i6 1)] [] ?_
  cases hm
  exact A.ret qE
 refine qF c3 ?_
 refine A.skip ?_
 show ah _ _ _ _ _
 refine A.seq ?_
 refine qDs [] [13] [(16, .bool (decide (xa0 < y)))] ?_
 rcases aq hm with ⟨c4,hm⟩|⟨c4,hm⟩
 ·refine qT c4 ?_
  refine qS [] [(4, i6 (-1))] [] ?_
  cases hm
  exact A.ret qE
 refine qF c4 ?_
 refine A.skip ?_
 show ah _ _ _ _ _
 refine A.seq ?_
 refine qS [] [(19, .bool (decide (y < xa0)))] [] ?_
 rcases aq hm with ⟨c5,hm⟩|⟨c5,hm⟩
 ·refine qT c5 ?_
  refine qS [] [(4, i6 1)] [] ?_
  cases hm
  exact A.ret qE
 refine qF c5 ?_
 refine A.skip ?_
 show ah _ _ _ _ _
 refine qS [] [(4, i6 0)] [] ?_
 cases hm
 exact A.ret qE
theorem sv {vals : List Int} {r : Int} (hm : ji vals = some r) : RO Try.prog 46 [] [lf aA vals] (i6 r) := by
 refine aZ Try.func46 rfl rfl ?_
 unfold ji at hm
 refine qS [] [(0, lf aA vals)] [] ?_
 refine qDs [] [] [(3, i6 0)] ?_
 refine A.seq ?_
 refine qDs [(1, hto (lnE aA vals))] [0] [(6, lf aA vals), (7, i6 (vals.length:Int)), (8, i6 0)] ?_
 refine A.block ?_
 refine A.bS 6 rfl fun hb1 => ?_
 obtain ⟨B1, K1, hB1, hK1, hm⟩ := aP hm
 refine A.lpI (l := vals) (j0 := 0) (B := B1) (K := K1) hm (fun j1 => fun sg => match sg with | () => [(3, i6 0), (6, lf aA vals), (7, i6 (vals.length:Int)), (8, i6 (j1 : Int))]) (fun j1 => fun sg => match sg with | () => []) ?_ ?_ ?_
 ·exact qW
 ·rintro j1 e1 Z1 ⟨⟩ hj1 hx1 hm
  rw [hB1] at hm
  refine qDs [] [] [(9, .bool (decide ((j1 : Int) < (vals.length:Int))))] ?_
  refine A.seq ?_
  refine qT (ltT hx1) ?_
  refine A.skip ?_
  show ah _ _ _ _ _
  refine A.seq ?_
  refine A.block ?_
  refine qDs [(0, hix (ix aA (aY hx1)))] [9] [(5, i6 e1)] ?_
  refine qDs [] [] [(14, .bool (!decide (e1 = (0:Int))))] ?_
  rcases aq hm with ⟨c1,hm⟩|⟨c1,hm⟩
  ·refine qT c1 ?_
   refine qS [] [(2, i6 e1)] [] ?_
   cases hm
   exact A.ret qE
  refine qF c1 ?_
  refine A.skip ?_
  show ah _ _ _ _ _
  refine qGs [(0, hto (inc hx1 hb1))] [8, 5, 14] [(8, i6 ((j1 + 1 : Nat) : Int))] ?_
  exact qX () hm
 rintro j1 ⟨⟩ hj1 hl1 hm
 rw [hK1] at hm
 refine qDs [] [] [(9, .bool (decide ((j1 : Int) < (vals.length:Int))))] ?_
 refine A.seq ?_
 refine qF (ltF hl1) ?_
 refine A.exit ?_
 show ah _ _ _ _ _
 refine qS [] [(2, i6 0)] [] ?_
 cases hm
 exact A.ret qE
theorem iU {sa0 : List ai} {f : ai → Option Bool} {f_g : Nat} {f_c : List AV} (f_k : aQ Try.prog f_g) (f_f : ∀ (y0 : ai) (q : Bool), f y0 = some q → RO Try.prog f_g [] ([.agg (k3 y0)] ++ f_c) (.bool q)) {r : Int} (hm : cE sa0 f = some r) : RO Try.prog 76 [] [lf af sa0, .cfn f_g f_c] (i6 r) := by
 refine aZ Try.func76 rfl rfl ?_
 unfold cE at hm
 refine qS [] [(0, lf af sa0), (1, .cfn f_g f_c)] [] ?_
 refine A.seq ?_
 refine qDs [(1, hto (lnE af sa0))] [] [(7, i6 (sa0.length:Int)), (8, i6 0)] ?_
 refine A.block ?_
 refine A.bS 0 rfl fun hb1 => ?_
 obtain ⟨B1, K1, hB1, hK1, hm⟩ := aP hm
 refine A.lpI (l := sa0) (j0 := 0) (B := B1) (K := K1) hm (fun j1 => fun sg => match sg with | () => [(0, lf af sa0), (1, .cfn f_g f_c), (7, i6 (sa0.length:Int)), (8, i6 (j1 : Int))]) (fun j1 => fun sg => match sg with | () => []) ?_ ?_ ?_
 ·exact qW
 ·rintro j1 e1 Z1 ⟨⟩ hj1 hx1 hm
  rw [hB1] at hm
  refine qDs [] [] [(9, .bool (decide ((j1 : Int) < (sa0.length:Int))))] ?_
  refine A.seq ?_
  refine qT (ltT hx1) ?_
  refine A.skip ?_
  show ah _ _ _ _ _
  refine A.seq ?_
  refine A.block ?_
  refine qDs [] [9] [(5, i6 (j1 : Int))] ?_
  obtain ⟨ak, h1, hm⟩ := aa hm
  refine qDs [(3, hix (ix af (aY hx1))), (5, hrf (f_f _ _ h1) f_k)] [] [(16, .bool ak)] ?_
  rcases aq hm with ⟨c1,hm⟩|⟨c1,hm⟩
  ·refine qT c1 ?_
   refine qS [] [(4, i6 (j1 : Int))] [] ?_
   cases hm
   exact A.ret qE
  refine qF c1 ?_
  refine A.skip ?_
  show ah _ _ _ _ _
  refine qGs [(0, hto (inc hx1 hb1))] [8, 5, 16] [(8, i6 ((j1 + 1 : Nat) : Int))] ?_
  exact qX () hm
 rintro j1 ⟨⟩ hj1 hl1 hm
 rw [hK1] at hm
 refine qDs [] [] [(9, .bool (decide ((j1 : Int) < (sa0.length:Int))))] ?_
 refine A.seq ?_
 refine qF (ltF hl1) ?_
 refine A.exit ?_
 show ah _ _ _ _ _
 refine qS [] [(4, i6 (-1))] [] ?_
 cases hm
 exact A.ret qE
theorem eo {xa0 : List aN} {target : Int} {cmp : aN → Int → Option Int} {mq : Nat} {nR : List AV} (sx : aQ Try.prog mq) (sy : ∀ (y0 : aN) (y1 : Int) (q : Int), cmp y0 y1 = some q → RO Try.prog mq [] ([.agg (k0 y0), i6 y1] ++ nR) (i6 q)) {r : Int × Bool} (hm : bQ xa0 target cmp = some r) : RO Try.prog 82 [] [lf aH xa0, i6 target, .cfn mq nR] (.tup [i6 r.1, .bool r.2]) := by
 refine aZ Try.func82 rfl rfl ?_
 unfold bQ at hm
 refine qS [] [(0, lf aH xa0), (1, i6 target), (2, .cfn mq nR)] [] ?_
 refine qDs [(1, hto (lnE aH xa0))] [] [(8, i6 (xa0.length:Int))] ?_
 refine qDs [] [] [(9, i6 0), (10, i6 (xa0.length:Int))] ?_
 refine A.seq ?_
 refine A.block ?_
 obtain ⟨F1, n1, hF1, hm⟩ := iJ hm
 refine A.lpW (F := F1) hm (fun sg => match sg with | (i_1, j_1) => [(0, lf aH xa0), (1, i6 target), (2, .cfn mq nR), (8, i6 (xa0.length:Int)), (9, i6 i_1), (10, i6 j_1)]) (fun sg => match sg with | (i_1, j_1) => []) ?_ ?_
 ·exact qW
 rintro Z1 ⟨i_1, j_1⟩ hm
 rw [hF1] at hm
 refine A.seq ?_
 refine qDs [] [] [(17, .bool (decide (i_1 < j_1)))] ?_
 rcases aq hm with ⟨c1,hm⟩|⟨c1,hm⟩
 ·refine qT c1 ?_
  refine A.skip ?_
  show ah _ _ _ _ _
  refine A.block ?_
  refine qDs [(4, .sh (1:Int) (by decide))] [17] [(11, i6 (w64 (Int.fdiv (IntKind.wrap .u64 (w64 (i_1 + j_1))) (2 ^ min (1:Int).toNat 64))))] ?_
  obtain ⟨e_1, h1, hm⟩ := aa hm
  obtain ⟨ak, h2, hm⟩ := aa hm
  refine qDs [(3, hix (ix aH h1)), (6, hrf (sy _ _ _ h2) sx)] [] [(31, .bool (decide (ak < (0:Int))))] ?_
  rcases aq hm with ⟨c2,hm⟩|⟨c2,hm⟩
  ·refine qT c2 ?_
   refine qGs [] [9, 11, 31] [(9, i6 (w64 ((w64 (Int.fdiv (IntKind.wrap .u64 (w64 (i_1 + j_1))) (2 ^ min (1:Int).toNat 64))) + (1:Int))))] ?_
   exact qX (w64 ((w64 (Int.fdiv (IntKind.wrap .u64 (w64 (i_1 + j_1))) (2 ^ min (1:Int).toNat 64))) + (1:Int)), j_1) hm
  refine qF c2 ?_
  refine qGs [] [10, 11, 31] [(10, i6 (w64 (Int.fdiv (IntKind.wrap .u64 (w64 (i_1 + j_1))) (2 ^ min (1:Int).toNat 64))))] ?_
  exact qX (i_1, w64 (Int.fdiv (IntKind.wrap .u64 (w64 (i_1 + j_1))) (2 ^ min (1:Int).toNat 64))) hm
 refine qF c1 ?_
 refine A.exit ?_
 show ah _ _ _ _ _
 rcases aq hm with ⟨c3,hm⟩|⟨c3,hm⟩
 ·obtain ⟨e_2, h3, hm⟩ := aa hm
  obtain ⟨aF, h4, hm⟩ := aa hm
  refine qS [(4, hto (bE c3)), (8, hix (ix aH h3)), (11, hrf (sy _ _ _ h4) sx)] [(6, i6 i_1), (7, .bool (decide (aF = (0:Int))))] [] ?_
  cases hm
  exact A.ret qE
 refine qS [(4, hto (bE c3))] [(6, i6 i_1), (7, .bool false)] [] ?_
 cases hm
 exact A.ret qE
theorem gT {xa0 : List aV} {target : aV} {cmp : aV → aV → Option Int} {mq : Nat} {nR : List AV} (sx : aQ Try.prog mq) (sy : ∀ (y0 : aV) (y1 : aV) (q : Int), cmp y0 y1 = some q → RO Try.prog mq [] ([.agg (k1 y0), .agg (k1 y1)] ++ nR) (i6 q)) {r : Int × Bool} (hm : b9 xa0 target cmp = some r) : RO Try.prog 92 [] [lf bu xa0, .agg (k1 target), .cfn mq nR] (.tup [i6 r.1, .bool r.2]) := by
 refine aZ Try.func92 rfl rfl ?_
 unfold b9 at hm
 refine qS [(0, .al 92004)] [(0, lf bu xa0), (2, .cfn mq nR), (4, .ptr 92004 0)] [(92004, .cells 85 (k1 target))] ?_
 refine qDs [(1, hto (lnE bu xa0))] [] [(8, i6 (xa0.length:Int))] ?_
 refine qDs [] [] [(9, i6 0), (10, i6 (xa0.length:Int))] ?_
 refine A.seq ?_
 refine A.block ?_
 obtain ⟨F1, n1, hF1, hm⟩ := iJ hm
 refine A.lpW (F := F1) hm (fun sg => match sg with | (i_1, j_1) => [(0, lf bu xa0), (2, .cfn mq nR), (4, .ptr 92004 0), (8, i6 (xa0.length:Int)), (9, i6 i_1), (10, i6 j_1)]) (fun sg => match sg with | (i_1, j_1) => [(92004, .cells 85 (k1 target))]) ?_ ?_
 ·exact qW
 rintro Z1 ⟨i_1, j_1⟩ hm
 rw [hF1] at hm
 refine A.seq ?_
 refine qDs [] [] [(17, .bool (decide (i_1 < j_1)))] ?_
 rcases aq hm with ⟨c1,hm⟩|⟨c1,hm⟩
 ·refine qT c1 ?_
  refine A.skip ?_
  show ah _ _ _ _ _
  refine A.block ?_
  refine qDs [(4, .sh (1:Int) (by decide))] [17] [(11, i6 (w64 (Int.fdiv (IntKind.wrap .u64 (w64 (i_1 + j_1))) (2 ^ min (1:Int).toNat 64))))] ?_
  obtain ⟨e_1, h1, hm⟩ := aa hm
  obtain ⟨ak, h2, hm⟩ := aa hm
  refine qDs [(3, hix (ix bu h1)), (6, hrf (sy _ _ _ h2) sx)] [] [(31, .bool (decide (ak < (0:Int))))] ?_
  rcases aq hm with ⟨c2,hm⟩|⟨c2,hm⟩
  ·refine qT c2 ?_
   refine qGs [] [9, 11, 31] [(9, i6 (w64 ((w64 (Int.fdiv (IntKind.wrap .u64 (w64 (i_1 + j_1))) (2 ^ min (1:Int).toNat 64))) + (1:Int))))] ?_
   exact qX (w64 ((w64 (Int.fdiv (IntKind.wrap .u64 (w64 (i_1 + j_1))) (2 ^ min (1:Int).toNat 64))) + (1:Int)), j_1) hm
  refine qF c2 ?_
  refine qGs [] [10, 11, 31] [(10, i6 (w64 (Int.fdiv (IntKind.wrap .u64 (w64 (i_1 + j_1))) (2 ^ min (1:Int).toNat 64))))] ?_
  exact qX (i_1, w64 (Int.fdiv (IntKind.wrap .u64 (w64 (i_1 + j_1))) (2 ^ min (1:Int).toNat 64))) hm
 refine qF c1 ?_
 refine A.exit ?_
 show ah _ _ _ _ _
 rcases aq hm with ⟨c3,hm⟩|⟨c3,hm⟩
 ·obtain ⟨e_2, h3, hm⟩ := aa hm
  obtain ⟨aF, h4, hm⟩ := aa hm
  refine qS [(4, hto (bE c3)), (8, hix (ix bu h3)), (11, hrf (sy _ _ _ h4) sx)] [(6, i6 i_1), (7, .bool (decide (aF = (0:Int))))] [] ?_
  cases hm
  exact A.ret qE
 refine qS [(4, hto (bE c3))] [(6, i6 i_1), (7, .bool false)] [] ?_
 cases hm
 exact A.ret qE
theorem kf {sa0 : List aN} {f : aN → Option Bool} {f_g : Nat} {f_c : List AV} (f_k : aQ Try.prog f_g) (f_f : ∀ (y0 : aN) (q : Bool), f y0 = some q → RO Try.prog f_g [] ([.agg (k0 y0)] ++ f_c) (.bool q)) {r : Int} (hm : cU sa0 f = some r) : RO Try.prog 107 [] [lf aH sa0, .cfn f_g f_c] (i6 r) := by
 refine aZ Try.func107 rfl rfl ?_
 unfold cU at hm
 refine qS [] [(0, lf aH sa0), (1, .cfn f_g f_c)] [] ?_
 refine A.seq ?_
 refine qDs [(1, hto (lnE aH sa0))] [] [(7, i6 (sa0.length:Int)), (8, i6 0)] ?_
 refine A.block ?_
 refine A.bS 0 rfl fun hb1 => ?_
 obtain ⟨B1, K1, hB1, hK1, hm⟩ := aP hm
 refine A.lpI (l := sa0) (j0 := 0) (B := B1) (K := K1) hm (fun j1 => fun sg => match sg with | () => [(0, lf aH sa0), (1, .cfn f_g f_c), (7, i6 (sa0.length:Int)), (8, i6 (j1 : Int))]) (fun j1 => fun sg => match sg with | () => []) ?_ ?_ ?_
 ·exact qW
 ·rintro j1 e1 Z1 ⟨⟩ hj1 hx1 hm
  rw [hB1] at hm
  refine qDs [] [] [(9, .bool (decide ((j1 : Int) < (sa0.length:Int))))] ?_
  refine A.seq ?_
  refine qT (ltT hx1) ?_
  refine A.skip ?_
  show ah _ _ _ _ _
  refine A.seq ?_
  refine A.block ?_
  refine qDs [] [9] [(5, i6 (j1 : Int))] ?_
  obtain ⟨ak, h1, hm⟩ := aa hm
  refine qDs [(3, hix (ix aH (aY hx1))), (5, hrf (f_f _ _ h1) f_k)] [] [(16, .bool ak)] ?_
  rcases aq hm with ⟨c1,hm⟩|⟨c1,hm⟩
  ·refine qT c1 ?_
   refine qS [] [(4, i6 (j1 : Int))] [] ?_
   cases hm
   exact A.ret qE
  refine qF c1 ?_
  refine A.skip ?_
  show ah _ _ _ _ _
  refine qGs [(0, hto (inc hx1 hb1))] [8, 5, 16] [(8, i6 ((j1 + 1 : Nat) : Int))] ?_
  exact qX () hm
 rintro j1 ⟨⟩ hj1 hl1 hm
 rw [hK1] at hm
 refine qDs [] [] [(9, .bool (decide ((j1 : Int) < (sa0.length:Int))))] ?_
 refine A.seq ?_
 refine qF (ltF hl1) ?_
 refine A.exit ?_
 show ah _ _ _ _ _
 refine qS [] [(4, i6 (-1))] [] ?_
 cases hm
 exact A.ret qE
theorem lJ {sa0 : List aV} {f : aV → Option Bool} {f_g : Nat} {f_c : List AV} (f_k : aQ Try.prog f_g) (f_f : ∀ (y0 : aV) (q : Bool), f y0 = some q → RO Try.prog f_g [] ([.agg (k1 y0)] ++ f_c) (.bool q)) {r : Int} (hm : dF sa0 f = some r) : RO Try.prog 108 [] [lf bu sa0, .cfn f_g f_c] (i6 r) := by
 refine aZ Try.func108 rfl rfl ?_
 unfold dF at hm
 refine qS [] [(0, lf bu sa0), (1, .cfn f_g f_c)] [] ?_
 refine A.seq ?_
 refine qDs [(1, hto (lnE bu sa0))] [] [(7, i6 (sa0.length:Int)), (8, i6 0)] ?_
 refine A.block ?_
 refine A.bS 0 rfl fun hb1 => ?_
 obtain ⟨B1, K1, hB1, hK1, hm⟩ := aP hm
 refine A.lpI (l := sa0) (j0 := 0) (B := B1) (K := K1) hm (fun j1 => fun sg => match sg with | () => [(0, lf bu sa0), (1, .cfn f_g f_c), (7, i6 (sa0.length:Int)), (8, i6 (j1 : Int))]) (fun j1 => fun sg => match sg with | () => []) ?_ ?_ ?_
 ·exact qW
 ·rintro j1 e1 Z1 ⟨⟩ hj1 hx1 hm
  rw [hB1] at hm
  refine qDs [] [] [(9, .bool (decide ((j1 : Int) < (sa0.length:Int))))] ?_
  refine A.seq ?_
  refine qT (ltT hx1) ?_
  refine A.skip ?_
  show ah _ _ _ _ _
  refine A.seq ?_
  refine A.block ?_
  refine qDs [] [9] [(5, i6 (j1 : Int))] ?_
  obtain ⟨ak, h1, hm⟩ := aa hm
  refine qDs [(3, hix (ix bu (aY hx1))), (5, hrf (f_f _ _ h1) f_k)] [] [(16, .bool ak)] ?_
  rcases aq hm with ⟨c1,hm⟩|⟨c1,hm⟩
  ·refine qT c1 ?_
   refine qS [] [(4, i6 (j1 : Int))] [] ?_
   cases hm
   exact A.ret qE
  refine qF c1 ?_
  refine A.skip ?_
  show ah _ _ _ _ _
  refine qGs [(0, hto (inc hx1 hb1))] [8, 5, 16] [(8, i6 ((j1 + 1 : Nat) : Int))] ?_
  exact qX () hm
 rintro j1 ⟨⟩ hj1 hl1 hm
 rw [hK1] at hm
 refine qDs [] [] [(9, .bool (decide ((j1 : Int) < (sa0.length:Int))))] ?_
 refine A.seq ?_
 refine qF (ltF hl1) ?_
 refine A.exit ?_
 show ah _ _ _ _ _
 refine qS [] [(4, i6 (-1))] [] ?_
 cases hm
 exact A.ret qE
theorem jB {sa0 : List aN} {f : aN → Option Bool} {f_g : Nat} {f_c : List AV} (f_k : aQ Try.prog f_g) (f_f : ∀ (y0 : aN) (q : Bool), f y0 = some q → RO Try.prog f_g [] ([.agg (k0 y0)] ++ f_c) (.bool q)) {r : Bool} (hm : ct sa0 f = some r) : RO Try.prog 78 [] [lf aH sa0, .cfn f_g f_c] (.bool r) := by
 refine aZ Try.func78 rfl rfl ?_
 unfold ct at hm
 refine qS [] [(0, lf aH sa0), (1, .cfn f_g f_c)] [] ?_
 obtain ⟨ak, h1, hm⟩ := aa hm
 refine qS [(2, hro (kf (f_k := f_k) (f_f := f_f) h1) anE)] [(4, .bool (decide ((0:Int) ≤ ak)))] [] ?_
 cases hm
 exact A.ret qE
theorem dW {sa0 : List aV} {f : aV → Option Bool} {f_g : Nat} {f_c : List AV} (f_k : aQ Try.prog f_g) (f_f : ∀ (y0 : aV) (q : Bool), f y0 = some q → RO Try.prog f_g [] ([.agg (k1 y0)] ++ f_c) (.bool q)) {r : Bool} (hm : b8 sa0 f = some r) : RO Try.prog 84 [] [lf bu sa0, .cfn f_g f_c] (.bool r) := by
 refine aZ Try.func84 rfl rfl ?_
 unfold b8 at hm
 refine qS [] [(0, lf bu sa0), (1, .cfn f_g f_c)] [] ?_
 obtain ⟨ak, h1, hm⟩ := aa hm
 refine qS [(2, hro (lJ (f_k := f_k) (f_f := f_f) h1) anG)] [(4, .bool (decide ((0:Int) ≤ ak)))] [] ?_
 cases hm
 exact A.ret qE
theorem fW {n : Int} {least : Int} {most : Int} {r : Bool} (hm : gI n least most = some r) : RO Try.prog 80 [] [i6 n, i6 least, i6 most] (.bool r) := by
 refine aZ Try.func80 rfl rfl ?_
 unfold gI at hm
 refine qS [] [(0, i6 n), (1, i6 least), (2, i6 most)] [] ?_
 refine A.mid [(6, .bool ((decide (least ≤ n)) && (decide (n ≤ most))))] [] (fun hk => ?_) ?_
 ·rcases tf (decide (least ≤ n)) with c1 | c1
  ·exact qS [(3, hto (bE c1)), (8, hto (lG (q := decide (n ≤ most)) c1))] _ _ hk
  exact qS [(3, hto (bE c1)), (8, hto (mI (q := decide (n ≤ most)) c1))] _ _ hk
 cases hm
 exact A.ret qE
theorem oz {a : aV} {b : aV} {r : Int} (hm : gi a b = some r) : RO Try.prog 88 [] [.agg (k1 a), .agg (k1 b)] (i6 r) := by
 refine aZ Try.func88 rfl rfl ?_
 unfold gi at hm
 refine qS [(0, .al 88002), (1, .al 88003)] [(2, .ptr 88002 0), (3, .ptr 88003 0)] [(88002, .cells 85 (k1 a)), (88003, .cells 85 (k1 b))] ?_
 obtain ⟨ak, h1, hm⟩ := aa hm
 obtain ⟨aF, h2, hm⟩ := aa hm
 obtain ⟨aI, h3, hm⟩ := aa hm
 refine qS [(4, hro (gD h1) aal), (9, hro (gD h2) aal), (11, hro (sv h3) alj)] [(4, i6 aI)] [] ?_
 cases hm
 exact A.ret qE
theorem qb {ra0 : aN} {id : Int} {r : Int} (hm : iE ra0 id = some r) : RO Try.prog 83 [] [.agg (k0 ra0), i6 id] (i6 r) := by
 refine aZ Try.func83 rfl rfl ?_
 unfold iE at hm
 refine qS [(0, .al 83002)] [(1, i6 id), (2, .ptr 83002 0)] [(83002, .cells 57 (k0 ra0))] ?_
 obtain ⟨ak, h1, hm⟩ := aa hm
 refine qS [(3, hro (gD h1) aal)] [(4, i6 ak)] [] ?_
 cases hm
 exact A.ret qE
theorem s8 {ra0 : aN} {r : Bool} (hm : jN ra0 = some r) : RO Try.prog 79 [] [.agg (k0 ra0)] (.bool r) := by
 refine aZ Try.func79 rfl rfl ?_
 unfold jN at hm
 refine qS [(0, .al 79001)] [(1, .ptr 79001 0)] [(79001, .cells 57 (k0 ra0))] ?_
 obtain ⟨ak, h1, hm⟩ := aa hm
 refine qS [(2, hro (fW h1) xh)] [(2, .bool (!ak))] [] ?_
 cases hm
 exact A.ret qE
theorem s9 {l : aV} {r : Bool} (hm : ir l = some r) : RO Try.prog 85 [] [.agg (k1 l)] (.bool r) := by
 refine aZ Try.func85 rfl rfl ?_
 unfold ir at hm
 refine qS [(0, .al 85001)] [(1, .ptr 85001 0)] [(85001, .cells 85 (k1 l))] ?_
 obtain ⟨ak, h1, hm⟩ := aa hm
 rcases aq hm with ⟨c1,hm⟩|⟨c1,hm⟩
 ·refine qS [(2, hro (fW h1) xh), (4, hto (bE c1))] [(2, .bool true)] [] ?_
  cases hm
  exact A.ret qE
 obtain ⟨aF, h2, hm⟩ := aa hm
 rcases aq hm with ⟨c2,hm⟩|⟨c2,hm⟩
 ·refine qS [(2, hro (fW h1) xh), (4, hto (bE c1)), (7, hro (fW h2) xh), (10, hto (bE c2))] [(2, .bool true)] [] ?_
  cases hm
  exact A.ret qE
 obtain ⟨aI, h3, hm⟩ := aa hm
 refine qS [(2, hro (fW h1) xh), (4, hto (bE c1)), (7, hro (fW h2) xh), (10, hto (bE c2)), (13, hro (fW h3) xh)] [(2, .bool (!aI))] [] ?_
 cases hm
 exact A.ret qE
theorem kN {id : Int} {c_0 : aj} {r : Bool} (hm : gj id c_0 = some r) : RO Try.prog 81 [] [i6 id, .dG (k2 c_0)] (.bool r) := by
 refine aZ Try.func81 rfl rfl ?_
 unfold gj at hm
 refine qS [] [(0, i6 id), (1, .dG (k2 c_0))] [] ?_
 obtain ⟨ak, h1, hm⟩ := aa hm
 refine qS [(3, hro (eo (mq := 83) (nR := []) (sx := als) (sy := fun _ _ _ h => qb h) h1) alr)] [(5, .bool ak.2)] [] ?_
 refine qS [] [(3, .bool (!ak.2))] [] ?_
 cases hm
 exact A.ret qE
theorem ta {l : aV} {c_0 : aj} {r : Bool} (hm : jO l c_0 = some r) : RO Try.prog 86 [] [.agg (k1 l), .dG [.fn 81 [.dG (k2 c_0)]]] (.bool r) := by
 refine aZ Try.func86 rfl rfl ?_
 unfold jO at hm
 refine qS [(0, .al 86002)] [(1, .dG [.fn 81 [.dG (k2 c_0)]]), (2, .ptr 86002 0)] [(86002, .cells 85 (k1 l))] ?_
 obtain ⟨ak, h1, hm⟩ := aa hm
 rcases aq hm with ⟨c1,hm⟩|⟨c1,hm⟩
 ·refine qS [(3, hle [] (kN h1) ae4), (4, hto (bE c1))] [(3, .bool true)] [] ?_
  cases hm
  exact A.ret qE
 obtain ⟨aF, h2, hm⟩ := aa hm
 refine qS [(3, hle [] (kN h1) ae4), (4, hto (bE c1)), (8, hle [] (kN h2) ae4)] [(3, .bool aF)] [] ?_
 cases hm
 exact A.ret qE
theorem tc {l : aV} {r : Bool} (hm : jP l = some r) : RO Try.prog 87 [] [.agg (k1 l)] (.bool r) := by
 refine aZ Try.func87 rfl rfl ?_
 unfold jP at hm
 refine qS [(0, .al 87001)] [(1, .ptr 87001 0)] [(87001, .cells 85 (k1 l))] ?_
 refine qS [] [(2, .bool (decide (l.B ≤ l.A)))] [] ?_
 cases hm
 exact A.ret qE
theorem mb {t : aj} {r : Int} (hm : fU t = some r) : RO Try.prog 56 [] [.agg (k2 t)] (i6 r) := by
 refine aZ Try.func56 rfl rfl ?_
 unfold fU at hm
 refine qS [(0, .al 56001)] [(1, .ptr 56001 0)] [(56001, .cells 32 (k2 t))] ?_
 refine A.seq ?_
 refine A.block ?_
 refine A.mid [(1, .ptr 56001 0), (6, .bool ((decide ((24:Int) < (t.ay.length:Int))) || (decide ((60:Int) < (t.Links.length:Int)))))] [(56001, .cells 32 (k2 t))] (fun hk => ?_) ?_
 ·rcases tf (decide ((24:Int) < (t.ay.length:Int))) with c1 | c1
  ·exact qS [(2, hto (lnE aH t.ay)), (4, hto (bE c1)), (10, hto (orT (q := decide ((60:Int) < (t.Links.length:Int))) c1))] _ _ hk
  exact qS [(2, hto (lnE aH t.ay)), (4, hto (bE c1)), (7, hto (lnE bu t.Links)), (10, hto (orF (q := decide ((60:Int) < (t.Links.length:Int))) c1))] _ _ hk
 rcases aq hm with ⟨c2,hm⟩|⟨c2,hm⟩
 ·refine qT c2 ?_
  refine qS [] [(2, i6 3)] [] ?_
  cases hm
  exact A.ret qE
 refine qF c2 ?_
 obtain ⟨ak, h1, hm⟩ := aa hm
 refine qDs [(2, hro (jB (f_g := 79) (f_c := []) (f_k := ck79) (f_f := fun _ _ h => s8 h) h1) ck78)] [6] [(17, .bool ak)] ?_
 rcases aq hm with ⟨c3,hm⟩|⟨c3,hm⟩
 ·refine qT c3 ?_
  refine qS [] [(2, i6 2)] [] ?_
  cases hm
  exact A.ret qE
 refine qF c3 ?_
 refine A.skip ?_
 show ah _ _ _ _ _
 refine A.seq ?_
 refine qDs [(2, hto (lnE aH t.ay))] [17] [(23, i6 (t.ay.length:Int)), (24, i6 0)] ?_
 refine A.block ?_
 refine A.bC 1 0 rfl rfl rfl fun hb1 => ?_
 obtain ⟨B1, K1, hB1, hK1, hm⟩ := aP hm
 refine A.lpI (l := t.ay) (j0 := 0) (B := B1) (K := K1) hm (fun j1 => fun sg => match sg with | () => [(1, .ptr 56001 0), (23, i6 (t.ay.length:Int)), (24, i6 (j1 : Int))]) (fun j1 => fun sg => match sg with | () => [(56001, .cells 32 (k2 t))]) ?_ ?_ ?_
 ·exact qW
 ·rintro j1 e1 Z1 ⟨⟩ hj1 hx1 hm
  rw [hB1] at hm
  refine qDs [] [] [(25, .bool (decide ((j1 : Int) < (t.ay.length:Int))))] ?_
  refine A.seq ?_
  refine qT (ltT hx1) ?_
  refine A.skip ?_
  show ah _ _ _ _ _
  refine A.seq ?_
  refine A.block ?_
  refine qDs [] [25] [(3, i6 (j1 : Int))] ?_
  obtain ⟨J1, hJ1, hm⟩ := bN hm
  refine A.J (J := J1) (r := r) (fun v_1 => [(1, .ptr 56001 0), (23, i6 (t.ay.length:Int)), (24, i6 (j1 : Int)), (44, .bool v_1)]) (fun v_1 => [(56001, .cells 32 (k2 t))]) ?_ ?_
  ·rcases aq hm with ⟨c4,hm⟩|⟨c4,hm⟩
   ·obtain ⟨e_1, h2, hm⟩ := aa hm
    refine qGs [(2, hto (bE c4)), (7, hix (ix aH h2)), (13, hix (ix aH (aY hx1)))] [3] [(44, .bool (decide (e1.ID ≤ e_1.ID)))] ?_
    exact qX (decide (e1.ID ≤ e_1.ID)) hm
   refine qGs [(2, hto (bE c4))] [3] [(44, .bool false)] ?_
   exact qX false hm
  rintro v_1 hm
  rw [hJ1] at hm
  rcases aq hm with ⟨c5,hm⟩|⟨c5,hm⟩
  ·refine qT c5 ?_
   refine qS [] [(2, i6 25)] [] ?_
   cases hm
   exact A.ret qE
  refine qF c5 ?_
  refine A.skip ?_
  show ah _ _ _ _ _
  refine qGs [(0, hto (inc hx1 hb1))] [24, 44] [(24, i6 ((j1 + 1 : Nat) : Int))] ?_
  exact qX () hm
 rintro j1 ⟨⟩ hj1 hl1 hm
 rw [hK1] at hm
 refine qDs [] [] [(25, .bool (decide ((j1 : Int) < (t.ay.length:Int))))] ?_
 refine A.seq ?_
 refine qF (ltF hl1) ?_
 refine A.exit ?_
 show ah _ _ _ _ _
 refine qD [(1, .al 56004)] [23, 24, 25] [(4, .ptr 56004 0)] [] [(56004, .cells 89 [.fn 81 [.ptr 56001 0]])] ?_
 refine A.seq ?_
 refine A.block ?_
 obtain ⟨aF, h3, hm⟩ := aa hm
 refine qDs [(2, hro (dW (f_g := 85) (f_c := []) (f_k := ck85) (f_f := fun _ _ h => s9 h) h3) ae5)] [] [(47, .bool aF)] ?_
 rcases aq hm with ⟨c6,hm⟩|⟨c6,hm⟩
 ·refine qT c6 ?_
  refine qS [] [(2, i6 2)] [] ?_
  cases hm
  exact A.ret qE
 refine qF c6 ?_
 obtain ⟨aI, h4, hm⟩ := aa hm
 refine qD [(3, hle [56004, 56001] (dW (f_g := 86) (f_c := [.dG [.fn 81 [.dG (k2 t)]]]) (f_k := ck86) (f_f := fun _ _ h => ta h) h4) ae5)] [4, 47] [(51, .bool aI)] [56004] [] ?_
 rcases aq hm with ⟨c7,hm⟩|⟨c7,hm⟩
 ·refine qT c7 ?_
  refine qS [] [(2, i6 4)] [] ?_
  cases hm
  exact A.ret qE
 refine qF c7 ?_
 obtain ⟨aU, h5, hm⟩ := aa hm
 refine qDs [(2, hro (dW (f_g := 87) (f_c := []) (f_k := ck87) (f_f := fun _ _ h => tc h) h5) ae5)] [51] [(56, .bool aU)] ?_
 rcases aq hm with ⟨c8,hm⟩|⟨c8,hm⟩
 ·refine qT c8 ?_
  refine qS [] [(2, i6 8)] [] ?_
  cases hm
  exact A.ret qE
 refine qF c8 ?_
 refine A.skip ?_
 show ah _ _ _ _ _
 refine A.seq ?_
 refine qDs [(2, hto (lnE bu t.Links))] [56] [(62, i6 (t.Links.length:Int)), (63, i6 0)] ?_
 refine A.block ?_
 refine A.bC 1 1 rfl rfl rfl fun hb2 => ?_
 obtain ⟨B2, K2, hB2, hK2, hm⟩ := aP hm
 refine A.lpI (l := t.Links) (j0 := 0) (B := B2) (K := K2) hm (fun j2 => fun sg => match sg with | () => [(1, .ptr 56001 0), (62, i6 (t.Links.length:Int)), (63, i6 (j2 : Int))]) (fun j2 => fun sg => match sg with | () => [(56001, .cells 32 (k2 t))]) ?_ ?_ ?_
 ·exact qW
 ·rintro j2 e2 Z2 ⟨⟩ hj2 hx2 hm
  rw [hB2] at hm
  refine qDs [] [] [(64, .bool (decide ((j2 : Int) < (t.Links.length:Int))))] ?_
  refine A.seq ?_
  refine qT (ltT hx2) ?_
  refine A.skip ?_
  show ah _ _ _ _ _
  refine A.seq ?_
  refine A.block ?_
  refine qDs [] [64] [(5, i6 (j2 : Int))] ?_
  obtain ⟨J2, hJ2, hm⟩ := bN hm
  refine A.J (J := J2) (r := r) (fun v_2 => [(1, .ptr 56001 0), (62, i6 (t.Links.length:Int)), (63, i6 (j2 : Int)), (82, .bool v_2)]) (fun v_2 => [(56001, .cells 32 (k2 t))]) ?_ ?_
  ·rcases aq hm with ⟨c9,hm⟩|⟨c9,hm⟩
   ·obtain ⟨e_2, h6, hm⟩ := aa hm
    obtain ⟨aX, h7, hm⟩ := aa hm
    refine qGs [(2, hto (bE c9)), (7, hix (ix bu h6)), (12, hix (ix bu (aY hx2))), (14, hro (oz h7) alu)] [5] [(82, .bool (decide ((0:Int) ≤ aX)))] ?_
    exact qX (decide ((0:Int) ≤ aX)) hm
   refine qGs [(2, hto (bE c9))] [5] [(82, .bool false)] ?_
   exact qX false hm
  rintro v_2 hm
  rw [hJ2] at hm
  rcases aq hm with ⟨c10,hm⟩|⟨c10,hm⟩
  ·refine qT c10 ?_
   refine qS [] [(2, i6 25)] [] ?_
   cases hm
   exact A.ret qE
  refine qF c10 ?_
  refine A.skip ?_
  show ah _ _ _ _ _
  refine qGs [(0, hto (inc hx2 hb2))] [63, 82] [(63, i6 ((j2 + 1 : Nat) : Int))] ?_
  exact qX () hm
 rintro j2 ⟨⟩ hj2 hl2 hm
 rw [hK2] at hm
 refine qDs [] [] [(64, .bool (decide ((j2 : Int) < (t.Links.length:Int))))] ?_
 refine A.seq ?_
 refine qF (ltF hl2) ?_
 refine A.exit ?_
 show ah _ _ _ _ _
 refine qS [] [(2, i6 0)] [] ?_
 cases hm
 exact A.ret qE
theorem jv {t : aj} {r : Bool} (hm : fV t = some r) : RO Try.prog 89 [] [.agg (k2 t)] (.bool r) := by
 refine aZ Try.func89 rfl rfl ?_
 unfold fV at hm
 refine qS [(0, .al 89001)] [(1, .ptr 89001 0)] [(89001, .cells 32 (k2 t))] ?_
 obtain ⟨ak, h1, hm⟩ := aa hm
 refine qS [(1, hro (mb h1) aeZ)] [(2, .bool (decide (ak = (0:Int))))] [] ?_
 cases hm
 exact A.ret qE
theorem vk {t : aj} {bz : Int} {r : aN × Bool} (hm : jQ t bz = some r) : RO Try.prog 91 [] [.agg (k2 t), i6 bz] (.tup [.agg (k0 r.1), .bool r.2]) := by
 refine aZ Try.func91 rfl rfl ?_
 unfold jQ at hm
 refine qS [(0, .al 91002), (1, .al 91004)] [(1, i6 bz), (2, .ptr 91002 0), (4, .ptr 91004 0)] [(91002, .cells 32 (k2 t)), (91004, .cells 57 [i6 0, .bool false])] ?_
 obtain ⟨ak, h1, hm⟩ := aa hm
 refine qDs [(3, hro (eo (mq := 83) (nR := []) (sx := als) (sy := fun _ _ _ h => qb h) h1) alr)] [1] [(6, i6 ak.1), (7, .bool ak.2)] ?_
 refine A.seq ?_
 refine qDs [] [7] [(16, .bool (!ak.2))] ?_
 rcases aq hm with ⟨c1,hm⟩|⟨c1,hm⟩
 ·refine qT c1 ?_
  refine qD [] [2, 6, 16] [(5, .bool false)] [91002] [] ?_
  cases hm
  exact A.ret qE
 refine qF c1 ?_
 refine A.skip ?_
 show ah _ _ _ _ _
 obtain ⟨e_1, h2, hm⟩ := aa hm
 refine qS [(3, hix (ix aH h2))] [(4, .ptr 91004 0), (5, .bool true)] [(91004, .cells 57 (k0 e_1))] ?_
 cases hm
 exact A.ret qE
theorem nA {t : aj} {bz : Int} {r : Bool} (hm : iZ t bz = some r) : RO Try.prog 62 [] [.agg (k2 t), i6 bz] (.bool r) := by
 refine aZ Try.func62 rfl rfl ?_
 unfold iZ at hm
 refine qS [(0, .al 62002)] [(1, i6 bz), (2, .ptr 62002 0)] [(62002, .cells 32 (k2 t))] ?_
 obtain ⟨ak, h1, hm⟩ := aa hm
 refine qDs [(2, hro (vk h1) ck91), (6, .al 62005)] [1] [(6, .bool ak.2)] ?_
 obtain ⟨aF, h2, hm⟩ := aa hm
 rcases aq hm with ⟨c1,hm⟩|⟨c1,hm⟩
 ·refine qS [(1, hro (jv h2) ab6), (2, hto (bE c1))] [(4, .bool ak.2)] [] ?_
  cases hm
  exact A.ret qE
 refine qS [(1, hro (jv h2) ab6), (2, hto (bE c1))] [(4, .bool false)] [] ?_
 cases hm
 exact A.ret qE
theorem vl {t : aj} {dB : Int} {eR : Int} {r : Int × Bool} (hm : jR t dB eR = some r) : RO Try.prog 63 [] [.agg (k2 t), i6 dB, i6 eR] (.tup [i6 r.1, .bool r.2]) := by
 refine aZ Try.func63 rfl rfl ?_
 unfold jR at hm
 refine qS [(0, .al 63003)] [(1, i6 dB), (2, i6 eR), (3, .ptr 63003 0)] [(63003, .cells 32 (k2 t))] ?_
 refine A.seq ?_
 obtain ⟨ak, h1, hm⟩ := aa hm
 refine qDs [(1, hro (jv h1) ab6)] [] [(12, .bool (!ak))] ?_
 rcases aq hm with ⟨c1,hm⟩|⟨c1,hm⟩
 ·refine qT c1 ?_
  refine qS [] [(6, i6 0), (7, .bool false)] [] ?_
  cases hm
  exact A.ret qE
 refine qF c1 ?_
 refine A.skip ?_
 show ah _ _ _ _ _
 obtain ⟨aF, h2, hm⟩ := aa hm
 refine qDs [(9, hro (gT (mq := 88) (nR := []) (sx := alu) (sy := fun _ _ _ h => oz h) h2) ck92)] [12] [(8, i6 aF.1), (9, .bool aF.2)] ?_
 refine A.seq ?_
 refine A.block ?_
 refine qDs [] [9] [(26, .bool (!aF.2))] ?_
 rcases aq hm with ⟨c2,hm⟩|⟨c2,hm⟩
 ·refine qT c2 ?_
  refine qS [] [(6, i6 0), (7, .bool false)] [] ?_
  cases hm
  exact A.ret qE
 refine qF c2 ?_
 refine qDs [] [1, 2, 26] [(29, .bool (decide (dB < eR)))] ?_
 rcases aq hm with ⟨c3,hm⟩|⟨c3,hm⟩
 ·refine qT c3 ?_
  obtain ⟨e_1, h3, hm⟩ := aa hm
  refine qS [(3, hix (ix bu h3))] [(6, i6 e_1.o5), (7, .bool true)] [] ?_
  cases hm
  exact A.ret qE
 refine qF c3 ?_
 refine A.skip ?_
 show ah _ _ _ _ _
 obtain ⟨e_2, h4, hm⟩ := aa hm
 refine qS [(3, hix (ix bu h4))] [(6, i6 e_2.nQ), (7, .bool true)] [] ?_
 cases hm
 exact A.ret qE
end Go.Proofs.Ytmfehenfoepkfaa
