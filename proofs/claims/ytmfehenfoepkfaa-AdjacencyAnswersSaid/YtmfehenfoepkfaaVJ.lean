/- The jt of dK of the program. No condition but bR bw stand in each. -/
import Derived.Test.YtmfehenfoepkfaaDA
import Derived.Test.YtmfehenfoepkfaaV5
import Derived.Test.YtmfehenfoepkfaaSO
namespace Go.Proofs.Ytmfehenfoepkfaa
open Go
set_option maxRecDepth 100000
set_option linter.all false
theorem kX {xa0 : Int} {r : Bool} (hm : iz xa0 = some r) : RO Try.prog 75 [] [i6 xa0] (.bool r) := by
 refine aZ Try.func75 rfl rfl ?_
 unfold iz at hm
 refine qS [] [(0, i6 xa0)] [] ?_
 refine qS [] [(2, .bool (!decide (xa0 = xa0)))] [] ?_
 cases hm
 exact A.ret qE
theorem wq {xa0 : Int} {y : Int} {r : Bool} (hm : kV xa0 y = some r) : RO Try.prog 74 [] [i6 xa0, i6 y] (.bool r) := by
 refine aZ Try.func74 rfl rfl ?_
 unfold kV at hm
 refine qS [] [(0, i6 xa0), (1, i6 y)] [] ?_
 obtain ⟨ak, h1, hm⟩ := aa hm
 rcases aq hm with ⟨c1,hm⟩|⟨c1,hm⟩
 ·obtain ⟨aF, h2, hm⟩ := aa hm
  rcases aq hm with ⟨c2,hm⟩|⟨c2,hm⟩
  ·refine qS [(1, hro (fh h1) xg), (2, hto (bE c1)), (4, hro (fh h2) xg), (7, hto (bE c2))] [(4, .bool true)] [] ?_
   cases hm
   exact A.ret qE
  refine qS [(1, hro (fh h1) xg), (2, hto (bE c1)), (4, hro (fh h2) xg), (7, hto (bE c2))] [(4, .bool (decide (xa0 < y)))] [] ?_
  cases hm
  exact A.ret qE
 refine qS [(1, hro (fh h1) xg), (2, hto (bE c1))] [(4, .bool (decide (xa0 < y)))] [] ?_
 cases hm
 exact A.ret qE
theorem td {vals : List Int} {r : Int} (hm : iA vals = some r) : RO Try.prog 52 [] [lf aA vals] (i6 r) := by
 refine aZ Try.func52 rfl rfl ?_
 unfold iA at hm
 refine qS [] [(0, lf aA vals)] [] ?_
 refine qDs [] [] [(3, i6 0)] ?_
 refine A.seq ?_
 refine qDs [(1, hto (lnE aA vals))] [0] [(6, lf aA vals), (7, i6 (vals.length:Int)), (8, i6 0)] ?_
 refine A.block ?_
 refine A.bS 6 rfl fun hb1 => ?_
 obtain ⟨B1, K1, hB1, hK1, hm⟩ := aP hm
 refine A.lpI (l := vals) (j0 := 0) (B := B1) (K := K1) hm (fun j1 => fun sg => match sg with | () => [(3, i6 0), (6, lf aA vals), (7, i6 (vals.length:Int)), (8, i6 (j1 : Int))]) (fun j1 => fun sg => match sg with | () => []) ?_ ?_ ?_
 ·exact qW
 ·rintro j1 e1 Z1 ⟨⟩ hj1 hx1 hm
  rw [hB1] at hm
  refine qDs [] [] [(9, .bool (decide ((j1 : Int) < (vals.length:Int))))] ?_
  refine A.seq ?_
  refine qT (ltT hx1) ?_
  refine A.skip ?_
  show ah _ _ _ _ _
  refine A.seq ?_
  refine A.block ?_
  refine qDs [(0, hix (ix aA (aY hx1)))] [9] [(5, i6 e1)] ?_
  refine qDs [] [] [(14, .bool (!decide (e1 = (0:Int))))] ?_
  rcases aq hm with ⟨c1,hm⟩|⟨c1,hm⟩
  ·refine qT c1 ?_
   refine qS [] [(2, i6 e1)] [] ?_
   cases hm
   exact A.ret qE
  refine qF c1 ?_
  refine A.skip ?_
  show ah _ _ _ _ _
  refine qGs [(0, hto (inc hx1 hb1))] [8, 5, 14] [(8, i6 ((j1 + 1 : Nat) : Int))] ?_
  exact qX () hm
 rintro j1 ⟨⟩ hj1 hl1 hm
 rw [hK1] at hm
 refine qDs [] [] [(9, .bool (decide ((j1 : Int) < (vals.length:Int))))] ?_
 refine A.seq ?_
 refine qF (ltF hl1) ?_
 refine A.exit ?_
 show ah _ _ _ _ _
 refine qS [] [(2, i6 0)] [] ?_
 cases hm
 exact A.ret qE
theorem nL {xa0 : List Int} {target : Int} {r : Int × Bool} (hm : dM xa0 target = some r) : RO Try.prog 53 [] [lf aA xa0, i6 target] (.tup [i6 r.1, .bool r.2]) := by
 refine aZ Try.func53 rfl rfl ?_
 unfold dM at hm
 refine qS [] [(0, lf aA xa0), (1, i6 target)] [] ?_
 refine qDs [(1, hto (lnE aA xa0))] [] [(6, i6 (xa0.length:Int))] ?_
 refine qDs [] [] [(7, i6 0), (8, i6 (xa0.length:Int))] ?_
 refine A.seq ?_
 refine A.block ?_
 obtain ⟨F1, n1, hF1, hm⟩ := iJ hm
 refine A.lpW (F := F1) hm (fun sg => match sg with | (i_1, j_1) => [(0, lf aA xa0), (1, i6 target), (6, i6 (xa0.length:Int)), (7, i6 i_1), (8, i6 j_1)]) (fun sg => match sg with | (i_1, j_1) => []) ?_ ?_
 ·exact qW
 rintro Z1 ⟨i_1, j_1⟩ hm
 rw [hF1] at hm
 refine A.seq ?_
 refine qDs [] [] [(15, .bool (decide (i_1 < j_1)))] ?_
 rcases aq hm with ⟨c1,hm⟩|⟨c1,hm⟩
 ·refine qT c1 ?_
  refine A.skip ?_
  show ah _ _ _ _ _
  refine A.block ?_
  refine qDs [(4, .sh (1:Int) (by decide))] [15] [(9, i6 (w64 (Int.fdiv (IntKind.wrap .u64 (w64 (i_1 + j_1))) (2 ^ min (1:Int).toNat 64))))] ?_
  obtain ⟨e_1, h1, hm⟩ := aa hm
  obtain ⟨ak, h2, hm⟩ := aa hm
  refine qDs [(2, hix (ix aA h1)), (5, hro (wq h2) ck74)] [] [(27, .bool ak)] ?_
  rcases aq hm with ⟨c2,hm⟩|⟨c2,hm⟩
  ·refine qT c2 ?_
   refine qGs [] [7, 9, 27] [(7, i6 (w64 ((w64 (Int.fdiv (IntKind.wrap .u64 (w64 (i_1 + j_1))) (2 ^ min (1:Int).toNat 64))) + (1:Int))))] ?_
   exact qX (w64 ((w64 (Int.fdiv (IntKind.wrap .u64 (w64 (i_1 + j_1))) (2 ^ min (1:Int).toNat 64))) + (1:Int)), j_1) hm
  refine qF c2 ?_
  refine qGs [] [8, 9, 27] [(8, i6 (w64 (Int.fdiv (IntKind.wrap .u64 (w64 (i_1 + j_1))) (2 ^ min (1:Int).toNat 64))))] ?_
  exact qX (i_1, w64 (Int.fdiv (IntKind.wrap .u64 (w64 (i_1 + j_1))) (2 ^ min (1:Int).toNat 64))) hm
 refine qF c1 ?_
 refine A.exit ?_
 show ah _ _ _ _ _
 rcases aq hm with ⟨c3,hm⟩|⟨c3,hm⟩
 ·obtain ⟨e_2, h3, hm⟩ := aa hm
  rcases aq hm with ⟨c4,hm⟩|⟨c4,hm⟩
  ·refine qS [(4, hto (bE c3)), (7, hix (ix aA h3)), (11, hto (bE c4))] [(4, i6 i_1), (5, .bool true)] [] ?_
   cases hm
   exact A.ret qE
  obtain ⟨aF, h4, hm⟩ := aa hm
  rcases aq hm with ⟨c5,hm⟩|⟨c5,hm⟩
  ·obtain ⟨aI, h5, hm⟩ := aa hm
   refine qS [(4, hto (bE c3)), (7, hix (ix aA h3)), (11, hto (bE c4)), (14, hix (ix aA h3)), (16, hro (kX h4) ae3), (17, hto (bE c5)), (19, hro (kX h5) ae3)] [(4, i6 i_1), (5, .bool aI)] [] ?_
   cases hm
   exact A.ret qE
  refine qS [(4, hto (bE c3)), (7, hix (ix aA h3)), (11, hto (bE c4)), (14, hix (ix aA h3)), (16, hro (kX h4) ae3), (17, hto (bE c5))] [(4, i6 i_1), (5, .bool false)] [] ?_
  cases hm
  exact A.ret qE
 refine qS [(4, hto (bE c3))] [(4, i6 i_1), (5, .bool false)] [] ?_
 cases hm
 exact A.ret qE
theorem jF {s1 : List ai} {s2 : List ai} {r : Bool} (hm : cQ s1 s2 = some r) : RO Try.prog 66 [] [lf af s1, lf af s2] (.bool r) := by
 refine aZ Try.func66 rfl rfl ?_
 unfold cQ at hm
 refine qS [] [(0, lf af s1), (1, lf af s2)] [] ?_
 refine A.seq ?_
 refine qDs [(1, hto (lnE af s1)), (3, hto (lnE af s2))] [] [(10, .bool (!decide ((s1.length:Int) = (s2.length:Int))))] ?_
 rcases aq hm with ⟨c1,hm⟩|⟨c1,hm⟩
 ·refine qT c1 ?_
  refine qS [] [(4, .bool false)] [] ?_
  cases hm
  exact A.ret qE
 refine qF c1 ?_
 refine A.skip ?_
 show ah _ _ _ _ _
 refine A.seq ?_
 refine qDs [(1, hto (lnE af s1))] [10] [(12, i6 (s1.length:Int)), (13, i6 0)] ?_
 refine A.block ?_
 refine A.bS 0 rfl fun hb1 => ?_
 obtain ⟨B1, K1, hB1, hK1, hm⟩ := aP hm
 refine A.lpI (l := s1) (j0 := 0) (B := B1) (K := K1) hm (fun j1 => fun sg => match sg with | () => [(0, lf af s1), (1, lf af s2), (12, i6 (s1.length:Int)), (13, i6 (j1 : Int))]) (fun j1 => fun sg => match sg with | () => []) ?_ ?_ ?_
 ·exact qW
 ·rintro j1 e1 Z1 ⟨⟩ hj1 hx1 hm
  rw [hB1] at hm
  refine qDs [] [] [(14, .bool (decide ((j1 : Int) < (s1.length:Int))))] ?_
  refine A.seq ?_
  refine qT (ltT hx1) ?_
  refine A.skip ?_
  show ah _ _ _ _ _
  refine A.seq ?_
  refine A.block ?_
  refine qDs [] [14] [(5, i6 (j1 : Int))] ?_
  obtain ⟨e_1, h1, hm⟩ := aa hm
  refine qDs [(2, hix (ix af (aY hx1))), (6, hix (ix af h1)), (8, .sq true 64 (.agg (k3 e1)) (.agg (k3 e_1)) (!(ee e1 e_1)) (fun x y w => z6 x y _ _ _ _ _ _ _ _ w))] [5] [(24, .bool (!(ee e1 e_1)))] ?_
  rcases aq hm with ⟨c2,hm⟩|⟨c2,hm⟩
  ·refine qT c2 ?_
   refine qS [] [(4, .bool false)] [] ?_
   cases hm
   exact A.ret qE
  refine qF c2 ?_
  refine A.skip ?_
  show ah _ _ _ _ _
  refine qGs [(0, hto (inc hx1 hb1))] [13, 24] [(13, i6 ((j1 + 1 : Nat) : Int))] ?_
  exact qX () hm
 rintro j1 ⟨⟩ hj1 hl1 hm
 rw [hK1] at hm
 refine qDs [] [] [(14, .bool (decide ((j1 : Int) < (s1.length:Int))))] ?_
 refine A.seq ?_
 refine qF (ltF hl1) ?_
 refine A.exit ?_
 show ah _ _ _ _ _
 refine qS [] [(4, .bool true)] [] ?_
 cases hm
 exact A.ret qE
theorem nu {n : Int} {r : Bool} (hm : fA n = some r) : RO Try.prog 57 [] [i6 n] (.bool r) := by
 refine aZ Try.func57 rfl rfl ?_
 unfold fA at hm
 refine qS [] [(0, i6 n)] [] ?_
 refine A.mid [(2, .bool ((decide (n = (8:Int))) || ((decide (n = (16:Int))) || ((decide (n = (32:Int))) || (decide (n = (64:Int)))))))] [] (fun hk => ?_) ?_
 ·rcases tf (decide (n = (8:Int))) with c1 | c1
  ·exact qS [(2, hto (bE c1)), (14, hto (orT (q := ((decide (n = (16:Int))) || ((decide (n = (32:Int))) || (decide (n = (64:Int)))))) c1))] _ _ hk
  rcases tf (decide (n = (16:Int))) with c2 | c2
  ·exact qS [(2, hto (bE c1)), (6, hto (bE c2)), (14, hto ((orT (q := ((decide (n = (32:Int))) || (decide (n = (64:Int))))) c2).trans (orF (q := ((decide (n = (16:Int))) || ((decide (n = (32:Int))) || (decide (n = (64:Int)))))) c1)))] _ _ hk
  rcases tf (decide (n = (32:Int))) with c3 | c3
  ·exact qS [(2, hto (bE c1)), (6, hto (bE c2)), (10, hto (bE c3)), (14, hto (((orT (q := decide (n = (64:Int))) c3).trans (orF (q := ((decide (n = (32:Int))) || (decide (n = (64:Int))))) c2)).trans (orF (q := ((decide (n = (16:Int))) || ((decide (n = (32:Int))) || (decide (n = (64:Int)))))) c1)))] _ _ hk
  exact qS [(2, hto (bE c1)), (6, hto (bE c2)), (10, hto (bE c3)), (14, hto (((orF (q := decide (n = (64:Int))) c3).trans (orF (q := ((decide (n = (32:Int))) || (decide (n = (64:Int))))) c2)).trans (orF (q := ((decide (n = (16:Int))) || ((decide (n = (32:Int))) || (decide (n = (64:Int)))))) c1)))] _ _ hk
 cases hm
 exact A.ret qE
theorem en {n : Int} {r : Bool} (hm : dN n = some r) : RO Try.prog 45 [] [i6 n] (.bool r) := by
 refine aZ Try.func45 rfl rfl ?_
 unfold dN at hm
 refine qS [] [(0, i6 n)] [] ?_
 refine A.mid [(2, .bool ((decide ((1:Int) ≤ n)) && (decide (n ≤ (99:Int)))))] [] (fun hk => ?_) ?_
 ·rcases tf (decide ((1:Int) ≤ n)) with c1 | c1
  ·exact qS [(2, hto (bE c1)), (6, hto (lG (q := decide (n ≤ (99:Int))) c1))] _ _ hk
  exact qS [(2, hto (bE c1)), (6, hto (mI (q := decide (n ≤ (99:Int))) c1))] _ _ hk
 cases hm
 exact A.ret qE
theorem nF {a : ai} {r : aG} (hm : gV a = some r) : RO Try.prog 64 [] [.agg (k3 a)] (.agg (k8 r)) := by
 refine aZ Try.func64 rfl rfl ?_
 unfold gV at hm
 refine qS [(0, .al 64001), (1, .al 64002)] [(1, .ptr 64001 0), (2, .ptr 64002 0)] [(64001, .cells 64 (k3 a)), (64002, .cells 99 [i6 0, i6 0, i6 0])] ?_
 refine qS [] [(2, .ptr 64002 0)] [(64002, .cells 99 [i6 a.aT, i6 a.Kind, i6 a.To])] ?_
 cases hm
 exact A.ret qE
theorem x9 : vg Try.prog 107 99 4 (kv cm) bV := ⟨Try.underlying107, fun _ => rfl, fun _ => rfl, ⟨_, Try.underlying99, fun _ _ => rfl⟩, fun a b w => eqK (by kernel_rfl) (by kernel_rfl) (afG a.gQ b.gQ a.lI b.lI a.to_ b.to_ w), fun e a w => by kernel_rfl, fun a b h => by cases a; cases b; simpa [bV] using h, fun a => by simp [kv, cm, valOf, uR, Instr.sameBits]⟩
theorem ez {e : aB} {r : Int} (hm : cZ e = some r) : RO Try.prog 31 [] [.agg (k5 e)] (i6 r) := by
 refine aZ Try.func31 rfl rfl ?_
 unfold cZ at hm
 refine qS [(0, .al 31001)] [(1, .ptr 31001 0)] [(31001, .cells 36 (k5 e))] ?_
 refine A.seq ?_
 obtain ⟨ak, h1, hm⟩ := aa hm
 refine qDs [(2, hro (nu h1) alo)] [] [(16, .bool (!ak))] ?_
 rcases aq hm with ⟨c1,hm⟩|⟨c1,hm⟩
 ·refine qT c1 ?_
  refine qS [] [(2, i6 2)] [] ?_
  cases hm
  exact A.ret qE
 refine qF c1 ?_
 refine A.skip ?_
 show ah _ _ _ _ _
 refine A.seq ?_
 refine qDs [(2, hto (lnE af e.List))] [16] [(18, lf af e.List), (19, i6 (e.List.length:Int)), (20, i6 0)] ?_
 refine A.block ?_
 refine A.bS 18 rfl fun hb1 => ?_
 obtain ⟨B1, K1, hB1, hK1, hm⟩ := aP hm
 refine A.lpI (l := e.List) (j0 := 0) (B := B1) (K := K1) hm (fun j1 => fun sg => match sg with | () => [(1, .ptr 31001 0), (18, lf af e.List), (19, i6 (e.List.length:Int)), (20, i6 (j1 : Int))]) (fun j1 => fun sg => match sg with | () => [(31001, .cells 36 (k5 e))]) ?_ ?_ ?_
 ·exact qW
 ·rintro j1 e1 Z1 ⟨⟩ hj1 hx1 hm
  rw [hB1] at hm
  refine qDs [] [] [(21, .bool (decide ((j1 : Int) < (e.List.length:Int))))] ?_
  refine A.seq ?_
  refine qT (ltT hx1) ?_
  refine A.skip ?_
  show ah _ _ _ _ _
  refine A.seq ?_
  refine A.block ?_
  refine qD [(0, hix (ix af (aY hx1))), (2, .al 31004)] [21] [(4, .ptr 31004 0)] [] [(31004, .cells 64 (k3 e1))] ?_
  obtain ⟨J1, hJ1, hm⟩ := bN hm
  refine A.J (J := J1) (r := r) (fun v_1 => [(1, .ptr 31001 0), (18, lf af e.List), (19, i6 (e.List.length:Int)), (20, i6 (j1 : Int)), (45, .bool v_1)]) (fun v_1 => [(31001, .cells 36 (k5 e))]) ?_ ?_
  ·rcases aq hm with ⟨c2,hm⟩|⟨c2,hm⟩
   ·refine qG [(3, hto (bE c2))] [4] [(45, .bool true)] [31004] [] ?_
    exact qX true hm
   rcases aq hm with ⟨c3,hm⟩|⟨c3,hm⟩
   ·refine qG [(3, hto (bE c2)), (10, hto (bE c3))] [4] [(45, .bool true)] [31004] [] ?_
    exact qX true hm
   obtain ⟨aF, h2, hm⟩ := aa hm
   rcases aq hm with ⟨c4,hm⟩|⟨c4,hm⟩
   ·refine qG [(3, hto (bE c2)), (10, hto (bE c3)), (13, hro (en h2) xd), (16, hto (bE c4))] [4] [(45, .bool true)] [31004] [] ?_
    exact qX true hm
   obtain ⟨aI, h3, hm⟩ := aa hm
   refine qG [(3, hto (bE c2)), (10, hto (bE c3)), (13, hro (en h2) xd), (16, hto (bE c4)), (19, hro (en h3) xd)] [4] [(45, .bool (!aI))] [31004] [] ?_
   exact qX (!aI) hm
  rintro v_1 hm
  rw [hJ1] at hm
  rcases aq hm with ⟨c5,hm⟩|⟨c5,hm⟩
  ·refine qT c5 ?_
   refine qS [] [(2, i6 2)] [] ?_
   cases hm
   exact A.ret qE
  refine qF c5 ?_
  refine A.skip ?_
  show ah _ _ _ _ _
  refine qGs [(0, hto (inc hx1 hb1))] [20, 45] [(20, i6 ((j1 + 1 : Nat) : Int))] ?_
  exact qX () hm
 rintro j1 ⟨⟩ hj1 hl1 hm
 rw [hK1] at hm
 refine qDs [] [] [(21, .bool (decide ((j1 : Int) < (e.List.length:Int))))] ?_
 refine A.seq ?_
 refine qF (ltF hl1) ?_
 refine A.exit ?_
 show ah _ _ _ _ _
 refine A.seq ?_
 refine qDs [(2, hto (lnE af e.List))] [18, 19, 20, 21] [(48, lf af e.List), (49, i6 (e.List.length:Int)), (50, i6 0)] ?_
 refine A.block ?_
 refine A.bS 48 rfl fun hb2 => ?_
 obtain ⟨B2, K2, hB2, hK2, hm⟩ := aP hm
 refine A.lpI (l := e.List) (j0 := 0) (B := B2) (K := K2) hm (fun j2 => fun sg => match sg with | () => [(1, .ptr 31001 0), (48, lf af e.List), (49, i6 (e.List.length:Int)), (50, i6 (j2 : Int))]) (fun j2 => fun sg => match sg with | () => [(31001, .cells 36 (k5 e))]) ?_ ?_ ?_
 ·exact qW
 ·rintro j2 e2 Z2 ⟨⟩ hj2 hx2 hm
  rw [hB2] at hm
  refine qDs [] [] [(51, .bool (decide ((j2 : Int) < (e.List.length:Int))))] ?_
  refine A.seq ?_
  refine qT (ltT hx2) ?_
  refine A.skip ?_
  show ah _ _ _ _ _
  refine A.seq ?_
  refine A.block ?_
  refine qD [(0, hix (ix af (aY hx2))), (2, .al 31006)] [51] [(6, .ptr 31006 0)] [] [(31006, .cells 64 (k3 e2))] ?_
  refine A.mid [(1, .ptr 31001 0), (48, lf af e.List), (49, i6 (e.List.length:Int)), (50, i6 (j2 : Int)), (61, .bool ((decide (e2.Kind < (1:Int))) || (decide ((3:Int) < e2.Kind))))] [(31001, .cells 36 (k5 e))] (fun hk => ?_) ?_
  ·rcases tf (decide (e2.Kind < (1:Int))) with c6 | c6
   ·exact qS [(3, hto (bE c6)), (7, hto (orT (q := decide ((3:Int) < e2.Kind)) c6))] _ _ hk
   exact qS [(3, hto (bE c6)), (7, hto (orF (q := decide ((3:Int) < e2.Kind)) c6))] _ _ hk
  rcases aq hm with ⟨c7,hm⟩|⟨c7,hm⟩
  ·refine qT c7 ?_
   refine qS [] [(2, i6 1)] [] ?_
   cases hm
   exact A.ret qE
  refine qF c7 ?_
  refine A.skip ?_
  show ah _ _ _ _ _
  refine qGs [(0, hto (inc hx2 hb2))] [50, 61] [(50, i6 ((j2 + 1 : Nat) : Int))] ?_
  exact qX () hm
 rintro j2 ⟨⟩ hj2 hl2 hm
 rw [hK2] at hm
 refine qDs [] [] [(51, .bool (decide ((j2 : Int) < (e.List.length:Int))))] ?_
 refine A.seq ?_
 refine qF (ltF hl2) ?_
 refine A.exit ?_
 show ah _ _ _ _ _
 refine A.seq ?_
 refine qDs [(2, hto (lnE af e.List))] [48, 49, 50, 51] [(64, lf af e.List), (65, i6 (e.List.length:Int)), (66, i6 0)] ?_
 refine A.block ?_
 refine A.bS 64 rfl fun hb3 => ?_
 obtain ⟨B3, K3, hB3, hK3, hm⟩ := aP hm
 refine A.lpI (l := e.List) (j0 := 0) (B := B3) (K := K3) hm (fun j3 => fun sg => match sg with | () => [(1, .ptr 31001 0), (64, lf af e.List), (65, i6 (e.List.length:Int)), (66, i6 (j3 : Int))]) (fun j3 => fun sg => match sg with | () => [(31001, .cells 36 (k5 e))]) ?_ ?_ ?_
 ·exact qW
 ·rintro j3 e3 Z3 ⟨⟩ hj3 hx3 hm
  rw [hB3] at hm
  refine qDs [] [] [(67, .bool (decide ((j3 : Int) < (e.List.length:Int))))] ?_
  refine A.seq ?_
  refine qT (ltT hx3) ?_
  refine A.skip ?_
  show ah _ _ _ _ _
  refine A.seq ?_
  refine A.block ?_
  refine qD [(0, hix (ix af (aY hx3))), (2, .al 31008)] [67] [(8, .ptr 31008 0)] [] [(31008, .cells 64 (k3 e3))] ?_
  refine qD [] [8] [(78, .bool (!((decide (e3.To = e3.aT)) == (decide (e3.Kind = (3:Int))))))] [31008] [] ?_
  rcases aq hm with ⟨c8,hm⟩|⟨c8,hm⟩
  ·refine qT c8 ?_
   refine qS [] [(2, i6 8)] [] ?_
   cases hm
   exact A.ret qE
  refine qF c8 ?_
  refine A.skip ?_
  show ah _ _ _ _ _
  refine qGs [(0, hto (inc hx3 hb3))] [66, 78] [(66, i6 ((j3 + 1 : Nat) : Int))] ?_
  exact qX () hm
 rintro j3 ⟨⟩ hj3 hl3 hm
 rw [hK3] at hm
 refine qDs [] [] [(67, .bool (decide ((j3 : Int) < (e.List.length:Int))))] ?_
 refine A.seq ?_
 refine qF (ltF hl3) ?_
 refine A.exit ?_
 show ah _ _ _ _ _
 refine A.seq ?_
 refine qDs [] [64, 65, 66, 67] [(9, i6 1)] ?_
 refine A.block ?_
 refine A.bC 1 1 rfl rfl rfl fun hb4 => ?_
 obtain ⟨B4, K4, hB4, hK4, hm⟩ := aP hm
 refine A.lpI (l := e.List) (j0 := 1) (B := B4) (K := K4) hm (fun j4 => fun sg => match sg with | () => [(1, .ptr 31001 0), (9, i6 (j4 : Int))]) (fun j4 => fun sg => match sg with | () => [(31001, .cells 36 (k5 e))]) ?_ ?_ ?_
 ·exact qW
 ·rintro j4 e4 Z4 ⟨⟩ hj4 hx4 hm
  rw [hB4] at hm
  refine A.seq ?_
  refine qDs [(3, hto (lnE af e.List))] [] [(84, .bool (decide ((j4 : Int) < (e.List.length:Int))))] ?_
  refine qT (ltT hx4) ?_
  refine A.skip ?_
  show ah _ _ _ _ _
  refine A.seq ?_
  refine A.block ?_
  obtain ⟨e_1, h4, hm⟩ := aa hm
  refine qDs [(4, hix (ix af h4)), (10, hix (ix af (aY hx4)))] [84] [(100, .bool (decide (e4.Bit ≤ e_1.Bit)))] ?_
  rcases aq hm with ⟨c9,hm⟩|⟨c9,hm⟩
  ·refine qT c9 ?_
   refine qS [] [(2, i6 25)] [] ?_
   cases hm
   exact A.ret qE
  refine qF c9 ?_
  refine A.skip ?_
  show ah _ _ _ _ _
  refine qGs [(1, hto (inc hx4 hb4))] [9, 100] [(9, i6 ((j4 + 1 : Nat) : Int))] ?_
  exact qX () hm
 rintro j4 ⟨⟩ hj4 hl4 hm
 rw [hK4] at hm
 refine A.seq ?_
 refine qDs [(3, hto (lnE af e.List))] [] [(84, .bool (decide ((j4 : Int) < (e.List.length:Int))))] ?_
 refine qF (ltF hl4) ?_
 refine A.exit ?_
 show ah _ _ _ _ _
 refine qD [(0, hmm 31101 99 4)] [9, 84] [(10, .cw 31101)] [] [(31101, .map 99 4 (gq (kv cm) vB []))] ?_
 refine A.seq ?_
 refine qD [(2, hto (lnE af e.List))] [1] [(103, lf af e.List), (104, i6 (e.List.length:Int)), (105, i6 0)] [31001] [] ?_
 refine A.block ?_
 refine A.bS 103 rfl fun hb5 => ?_
 obtain ⟨B5, K5, hB5, hK5, hm⟩ := aP hm
 refine A.lpI (l := e.List) (j0 := 0) (B := B5) (K := K5) hm (fun j5 => fun m_1 => [(10, .cw 31101), (103, lf af e.List), (104, i6 (e.List.length:Int)), (105, i6 (j5 : Int))]) (fun j5 => fun m_1 => [(31101, .map 99 4 (gq (kv cm) vB m_1))]) ?_ ?_ ?_
 ·exact qW
 ·rintro j5 e5 Z5 m_1 hj5 hx5 hm
  rw [hB5] at hm
  refine qDs [] [] [(106, .bool (decide ((j5 : Int) < (e.List.length:Int))))] ?_
  refine A.seq ?_
  refine qT (ltT hx5) ?_
  refine A.skip ?_
  show ah _ _ _ _ _
  refine A.seq ?_
  refine A.block ?_
  refine qD [(0, hix (ix af (aY hx5))), (2, .al 31012)] [106] [(12, .ptr 31012 0)] [] [(31012, .cells 64 (k3 e5))] ?_
  refine A.seq ?_
  obtain ⟨aU, h5, hm⟩ := aa hm
  refine qDs [(2, hro (nF h5) ae1), (3, hlK m_1 aU vB false x9 (zB Try.zeroValue4))] [] [(112, .bool ((gP bV m_1 aU).getD false))] ?_
  rcases aq hm with ⟨c10,hm⟩|⟨c10,hm⟩
  ·refine qT c10 ?_
   refine qS [] [(2, i6 5)] [] ?_
   cases hm
   exact A.ret qE
  refine qF c10 ?_
  refine A.skip ?_
  show ah _ _ _ _ _
  obtain ⟨aX, h6, hm⟩ := aa hm
  refine qG [(2, hro (nF h6) ae1), (3, hmK m_1 aX vB true x9 rfl)] [12, 112] [] [31101, 31012] [(31101, .map 99 4 (gq (kv cm) vB (ny bV m_1 aX true)))] ?_
  show ah _ _ _ _ _
  refine qGs [(0, hto (inc hx5 hb5))] [105] [(105, i6 ((j5 + 1 : Nat) : Int))] ?_
  exact qX (ny bV m_1 aX true) hm
 rintro j5 m_1 hj5 hl5 hm
 rw [hK5] at hm
 refine qDs [] [] [(106, .bool (decide ((j5 : Int) < (e.List.length:Int))))] ?_
 refine A.seq ?_
 refine qF (ltF hl5) ?_
 refine A.exit ?_
 show ah _ _ _ _ _
 refine qS [] [(2, i6 0)] [] ?_
 cases hm
 exact A.ret qE
theorem mc {e : aB} {t : aj} {r : Int} (hm : gW e t = some r) : RO Try.prog 28 [] [.agg (k5 e), .agg (k2 t)] (i6 r) := by
 refine aZ Try.func28 rfl rfl ?_
 unfold gW at hm
 refine qS [(0, .al 28002), (1, .al 28003)] [(2, .ptr 28002 0), (3, .ptr 28003 0)] [(28002, .cells 36 (k5 e)), (28003, .cells 32 (k2 t))] ?_
 refine A.seq ?_
 obtain ⟨ak, h1, hm⟩ := aa hm
 refine qDs [(1, hro (ez h1) yH)] [] [(5, i6 ak)] ?_
 refine qDs [] [] [(15, .bool (!decide (ak = (0:Int))))] ?_
 rcases aq hm with ⟨c1,hm⟩|⟨c1,hm⟩
 ·refine qT c1 ?_
  refine qS [] [(4, i6 ak)] [] ?_
  cases hm
  exact A.ret qE
 refine qF c1 ?_
 refine A.skip ?_
 show ah _ _ _ _ _
 refine A.seq ?_
 obtain ⟨aF, h2, hm⟩ := aa hm
 refine qDs [(1, hro (mb h2) aeZ)] [5, 15] [(19, .bool (!decide (aF = (0:Int))))] ?_
 rcases aq hm with ⟨c2,hm⟩|⟨c2,hm⟩
 ·refine qT c2 ?_
  refine qS [] [(4, i6 1)] [] ?_
  cases hm
  exact A.ret qE
 refine qF c2 ?_
 refine A.skip ?_
 show ah _ _ _ _ _
 refine A.seq ?_
 refine qDs [(2, hto (lnE af e.List))] [19] [(21, lf af e.List), (22, i6 (e.List.length:Int)), (23, i6 0)] ?_
 refine A.block ?_
 refine A.bS 21 rfl fun hb1 => ?_
 obtain ⟨B1, K1, hB1, hK1, hm⟩ := aP hm
 refine A.lpI (l := e.List) (j0 := 0) (B := B1) (K := K1) hm (fun j1 => fun sg => match sg with | () => [(2, .ptr 28002 0), (3, .ptr 28003 0), (21, lf af e.List), (22, i6 (e.List.length:Int)), (23, i6 (j1 : Int))]) (fun j1 => fun sg => match sg with | () => [(28002, .cells 36 (k5 e)), (28003, .cells 32 (k2 t))]) ?_ ?_ ?_
 ·exact qW
 ·rintro j1 e1 Z1 ⟨⟩ hj1 hx1 hm
  rw [hB1] at hm
  refine qDs [] [] [(24, .bool (decide ((j1 : Int) < (e.List.length:Int))))] ?_
  refine A.seq ?_
  refine qT (ltT hx1) ?_
  refine A.skip ?_
  show ah _ _ _ _ _
  refine A.seq ?_
  refine A.block ?_
  refine qD [(0, hix (ix af (aY hx1))), (2, .al 28007)] [24] [(7, .ptr 28007 0)] [] [(28007, .cells 64 (k3 e1))] ?_
  obtain ⟨J1, hJ1, hm⟩ := bN hm
  refine A.J (J := J1) (r := r) (fun v_1 => [(2, .ptr 28002 0), (3, .ptr 28003 0), (21, lf af e.List), (22, i6 (e.List.length:Int)), (23, i6 (j1 : Int)), (38, .bool v_1)]) (fun v_1 => [(28002, .cells 36 (k5 e)), (28003, .cells 32 (k2 t))]) ?_ ?_
  ·obtain ⟨aI, h3, hm⟩ := aa hm
   rcases aq hm with ⟨c3,hm⟩|⟨c3,hm⟩
   ·refine qG [(3, hro (nA h3) ae0), (5, hto (bE c3))] [7] [(38, .bool true)] [28007] [] ?_
    exact qX true hm
   obtain ⟨aU, h4, hm⟩ := aa hm
   refine qG [(3, hro (nA h3) ae0), (5, hto (bE c3)), (9, hro (nA h4) ae0)] [7] [(38, .bool (!aU))] [28007] [] ?_
   exact qX (!aU) hm
  rintro v_1 hm
  rw [hJ1] at hm
  rcases aq hm with ⟨c4,hm⟩|⟨c4,hm⟩
  ·refine qT c4 ?_
   refine qS [] [(4, i6 4)] [] ?_
   cases hm
   exact A.ret qE
  refine qF c4 ?_
  refine A.skip ?_
  show ah _ _ _ _ _
  refine qGs [(0, hto (inc hx1 hb1))] [23, 38] [(23, i6 ((j1 + 1 : Nat) : Int))] ?_
  exact qX () hm
 rintro j1 ⟨⟩ hj1 hl1 hm
 rw [hK1] at hm
 refine qDs [] [] [(24, .bool (decide ((j1 : Int) < (e.List.length:Int))))] ?_
 refine A.seq ?_
 refine qF (ltF hl1) ?_
 refine A.exit ?_
 show ah _ _ _ _ _
 refine A.seq ?_
 refine qD [(2, hto (lnE af e.List))] [2, 21, 22, 23, 24] [(41, lf af e.List), (42, i6 (e.List.length:Int)), (43, i6 0)] [28002] [] ?_
 refine A.block ?_
 refine A.bS 41 rfl fun hb2 => ?_
 obtain ⟨B2, K2, hB2, hK2, hm⟩ := aP hm
 refine A.lpI (l := e.List) (j0 := 0) (B := B2) (K := K2) hm (fun j2 => fun sg => match sg with | () => [(3, .ptr 28003 0), (41, lf af e.List), (42, i6 (e.List.length:Int)), (43, i6 (j2 : Int))]) (fun j2 => fun sg => match sg with | () => [(28003, .cells 32 (k2 t))]) ?_ ?_ ?_
 ·exact qW
 ·rintro j2 e2 Z2 ⟨⟩ hj2 hx2 hm
  rw [hB2] at hm
  refine qDs [] [] [(44, .bool (decide ((j2 : Int) < (e.List.length:Int))))] ?_
  refine A.seq ?_
  refine qT (ltT hx2) ?_
  refine A.skip ?_
  show ah _ _ _ _ _
  refine A.seq ?_
  refine A.block ?_
  refine qD [(0, hix (ix af (aY hx2))), (2, .al 28009)] [44] [(9, .ptr 28009 0)] [] [(28009, .cells 64 (k3 e2))] ?_
  obtain ⟨aX, h5, hm⟩ := aa hm
  refine qDs [(5, hro (vl h5) ck63)] [] [(11, .bool aX.2)] ?_
  refine A.mid [(3, .ptr 28003 0), (41, lf af e.List), (42, i6 (e.List.length:Int)), (43, i6 (j2 : Int)), (62, .bool ((decide (e2.Kind = (1:Int))) && (!aX.2)))] [(28003, .cells 32 (k2 t))] (fun hk => ?_) ?_
  ·rcases tf (decide (e2.Kind = (1:Int))) with c5 | c5
   ·exact qS [(3, hto (bE c5)), (6, hto (lG (q := !aX.2) c5))] _ _ hk
   exact qS [(3, hto (bE c5)), (6, hto (mI (q := !aX.2) c5))] _ _ hk
  rcases aq hm with ⟨c6,hm⟩|⟨c6,hm⟩
  ·refine qT c6 ?_
   refine qS [] [(4, i6 8)] [] ?_
   cases hm
   exact A.ret qE
  refine qF c6 ?_
  refine A.skip ?_
  show ah _ _ _ _ _
  refine qGs [(0, hto (inc hx2 hb2))] [43, 62] [(43, i6 ((j2 + 1 : Nat) : Int))] ?_
  exact qX () hm
 rintro j2 ⟨⟩ hj2 hl2 hm
 rw [hK2] at hm
 refine qDs [] [] [(44, .bool (decide ((j2 : Int) < (e.List.length:Int))))] ?_
 refine A.seq ?_
 refine qF (ltF hl2) ?_
 refine A.exit ?_
 show ah _ _ _ _ _
 refine qS [] [(4, i6 0)] [] ?_
 cases hm
 exact A.ret qE
theorem iC {e : aB} {bz : Int} {r : Int} (hm : fJ e bz = some r) : RO Try.prog 26 [] [.agg (k5 e), i6 bz] (.int .u64 r) := by
 refine aZ Try.func26 rfl rfl ?_
 unfold fJ at hm
 refine qS [(0, .al 26002)] [(1, i6 bz), (2, .ptr 26002 0)] [(26002, .cells 36 (k5 e))] ?_
 refine qDs [] [] [(5, .int .u64 (0:Int))] ?_
 obtain ⟨J1, hJ1, hm⟩ := bN hm
 refine A.J (J := J1) (r := r) (fun b_1 => [(5, .int .u64 b_1)]) (fun b_1 => []) ?_ ?_
 ·obtain ⟨ak, h1, hm⟩ := aa hm
  refine qDs [(1, hro (ez h1) yH)] [] [(10, .bool (decide (ak = (0:Int))))] ?_
  rcases aq hm with ⟨c1,hm⟩|⟨c1,hm⟩
  ·refine qT c1 ?_
   refine qD [(2, hto (lnE af e.List))] [2, 10] [(12, lf af e.List), (13, i6 (e.List.length:Int)), (14, i6 0)] [26002] [] ?_
   refine A.block ?_
   refine A.bS 12 rfl fun hb1 => ?_
   obtain ⟨B1, K1, hB1, hK1, hm⟩ := aP hm
   refine A.lpI (l := e.List) (j0 := 0) (B := B1) (K := K1) hm (fun j1 => fun b_2 => [(1, i6 bz), (5, .int .u64 b_2), (12, lf af e.List), (13, i6 (e.List.length:Int)), (14, i6 (j1 : Int))]) (fun j1 => fun b_2 => []) ?_ ?_ ?_
   ·exact qW
   ·rintro j1 e1 Z1 b_2 hj1 hx1 hm
    rw [hB1] at hm
    refine qDs [] [] [(15, .bool (decide ((j1 : Int) < (e.List.length:Int))))] ?_
    refine A.seq ?_
    refine qT (ltT hx1) ?_
    refine A.skip ?_
    show ah _ _ _ _ _
    obtain ⟨J2, hJ2, hm⟩ := bN hm
    refine A.J (J := J2) (r := r) (fun b_3 => [(1, i6 bz), (5, .int .u64 b_3), (12, lf af e.List), (13, i6 (e.List.length:Int)), (14, i6 (j1 : Int))]) (fun b_3 => []) ?_ ?_
    ·refine A.block ?_
     refine qD [(0, hix (ix af (aY hx1))), (2, .al 26007)] [15] [(7, .ptr 26007 0)] [] [(26007, .cells 64 (k3 e1))] ?_
     refine qDs [] [] [(21, .bool (decide (e1.aT = bz)))] ?_
     rcases aq hm with ⟨c2,hm⟩|⟨c2,hm⟩
     ·refine qT c2 ?_
      obtain ⟨h2, hm⟩ := eP hm
      refine qG [(3, .sh e1.Bit (of_decide_eq_true h2))] [5, 7, 21] [(5, .int .u64 (cg .or .u64 b_2 (IntKind.wrap .u64 ((1:Int) * 2 ^ min e1.Bit.toNat 64))))] [26007] [] ?_
      exact qX (cg .or .u64 b_2 (IntKind.wrap .u64 ((1:Int) * 2 ^ min e1.Bit.toNat 64))) hm
     refine qF c2 ?_
     refine A.skip ?_
     exact qX b_2 hm
    rintro b_3 hm
    rw [hJ2] at hm
    refine qGs [(0, hto (inc hx1 hb1))] [14] [(14, i6 ((j1 + 1 : Nat) : Int))] ?_
    exact qX b_3 hm
   rintro j1 b_2 hj1 hl1 hm
   rw [hK1] at hm
   refine qDs [] [] [(15, .bool (decide ((j1 : Int) < (e.List.length:Int))))] ?_
   refine A.seq ?_
   refine qF (ltF hl1) ?_
   refine A.exit ?_
   exact qX b_2 hm
  refine qF c1 ?_
  refine A.skip ?_
  exact qX (0:Int) hm
 rintro b_1 hm
 rw [hJ1] at hm
 refine qS [] [(4, .int .u64 b_1)] [] ?_
 cases hm
 exact A.ret qE
theorem tg {a : ai} {c_0 : aG} {r : Bool} (hm : jS a c_0 = some r) : RO Try.prog 77 [] [.agg (k3 a), .dG (k8 c_0)] (.bool r) := by
 refine aZ Try.func77 rfl rfl ?_
 unfold jS at hm
 refine qS [(0, .al 77002)] [(1, .dG (k8 c_0)), (2, .ptr 77002 0)] [(77002, .cells 64 (k3 a))] ?_
 obtain ⟨ak, h1, hm⟩ := aa hm
 refine qS [(1, hro (nF h1) ae1), (3, .sq false 99 (.agg (k8 ak)) (.agg (k8 c_0)) (bV ak c_0) (fun x y w => adC x y _ _ _ _ _ _ w))] [(3, .bool (bV ak c_0))] [] ?_
 cases hm
 exact A.ret qE
theorem pG {e : aB} {xa1 : aG} {r : Int × Bool} (hm : gX e xa1 = some r) : RO Try.prog 54 [] [.agg (k5 e), .agg (k8 xa1)] (.tup [i6 r.1, .bool r.2]) := by
 refine aZ Try.func54 rfl rfl ?_
 unfold gX at hm
 refine qS [(0, .al 54002), (1, .al 54003)] [(2, .ptr 54002 0), (3, .ptr 54003 0)] [(54002, .cells 36 (k5 e)), (54003, .cells 99 (k8 xa1))] ?_
 obtain ⟨ak, h1, hm⟩ := aa hm
 refine qD [(3, hle [54003] (iU (f_g := 77) (f_c := [.dG (k8 xa1)]) (f_k := ck77) (f_f := fun _ _ h => tg h) h1) ck76)] [3] [(6, i6 ak)] [54003] [] ?_
 refine A.seq ?_
 refine qDs [] [] [(12, .bool (decide (ak < (0:Int))))] ?_
 rcases aq hm with ⟨c1,hm⟩|⟨c1,hm⟩
 ·refine qT c1 ?_
  refine qS [] [(4, i6 0), (5, .bool false)] [] ?_
  cases hm
  exact A.ret qE
 refine qF c1 ?_
 refine A.skip ?_
 show ah _ _ _ _ _
 obtain ⟨e_1, h2, hm⟩ := aa hm
 refine qS [(3, hix (ix af h2))] [(4, i6 e_1.Bit), (5, .bool true)] [] ?_
 cases hm
 exact A.ret qE
theorem me {e : aB} {bz : Int} {kind : Int} {lN : Int} {r : Int × Bool} (hm : fZ e bz kind lN = some r) : RO Try.prog 27 [] [.agg (k5 e), i6 bz, i6 kind, i6 lN] (.tup [i6 r.1, .bool r.2]) := by
 refine aZ Try.func27 rfl rfl ?_
 unfold fZ at hm
 refine qS [(0, .al 27004)] [(1, i6 bz), (2, i6 kind), (3, i6 lN), (4, .ptr 27004 0)] [(27004, .cells 36 (k5 e))] ?_
 refine A.seq ?_
 obtain ⟨ak, h1, hm⟩ := aa hm
 refine qDs [(1, hro (ez h1) yH)] [] [(12, .bool (!decide (ak = (0:Int))))] ?_
 rcases aq hm with ⟨c1,hm⟩|⟨c1,hm⟩
 ·refine qT c1 ?_
  refine qS [] [(8, i6 0), (9, .bool false)] [] ?_
  cases hm
  exact A.ret qE
 refine qF c1 ?_
 refine A.skip ?_
 show ah _ _ _ _ _
 obtain ⟨aF, h2, hm⟩ := aa hm
 refine qS [(5, hro (pG h2) aln)] [(8, i6 aF.1), (9, .bool aF.2)] [] ?_
 cases hm
 exact A.ret qE
theorem oE {bz : Int} {kind : Int} {eR : Int} {aaq : Int} {yK : List ai} {r : Int × (List ai)} (hm : iB bz kind eR aaq yK = some r) : cv Try.prog 58 [(800058000, .cells 36 [i6 aaq, .own 800058500]), (800058500, .slice 64 4 (ml af yK) 0 false)] [i6 bz, i6 kind, i6 eR, .ptr 800058000 0] (fun a σ' => a = .tup [] ∧ σ' = [(800058000, .cells 36 [i6 r.1, .own 800058501]), (800058501, .slice 64 4 (ml af r.2) 0 false)]) := by
 refine aZ Try.func58 rfl rfl ?_
 unfold iB at hm
 obtain ⟨l_1, h1, hm⟩ := aa hm
 refine qR [(4, hto (lnE af yK)), (10, hap 58517 (ap af (bytes := 32) (by decide) h1))] [] [(800058000, .cells 36 [i6 aaq, .own 58517]), (58517, .slice 64 4 (ml af l_1) 0 false)] ?_
 obtain rfl := some_inj hm
 exact A.fin W0 [.sw 58517 800058501] rfl (by kernel_rfl)
theorem mg {t : aj} {length : Int} {r : aB × Int} (hm : ga t length = some r) : RO Try.prog 23 [] [.agg (k2 t), i6 length] (.tup [.agg (k5 r.1), i6 r.2]) := by
 refine aZ Try.func23 rfl rfl ?_
 unfold ga at hm
 refine qS [(0, .al 23002), (1, .al 23004)] [(1, i6 length), (2, .ptr 23002 0), (4, .ptr 23004 0)] [(23002, .cells 32 (k2 t)), (23004, .cells 36 [i6 0, .bf])] ?_
 refine A.seq ?_
 obtain ⟨ak, h1, hm⟩ := aa hm
 refine qDs [(1, hro (mb h1) aeZ)] [] [(14, .bool (!decide (ak = (0:Int))))] ?_
 rcases aq hm with ⟨c1,hm⟩|⟨c1,hm⟩
 ·refine qT c1 ?_
  refine qD [] [1, 2, 14] [(5, i6 1)] [23002] [] ?_
  cases hm
  exact A.ret qE
 refine qF c1 ?_
 refine A.skip ?_
 show ah _ _ _ _ _
 refine A.seq ?_
 obtain ⟨aF, h2, hm⟩ := aa hm
 refine qDs [(1, hro (nu h2) alo)] [14] [(18, .bool (!aF))] ?_
 rcases aq hm with ⟨c2,hm⟩|⟨c2,hm⟩
 ·refine qT c2 ?_
  refine qD [] [1, 2, 18] [(5, i6 2)] [23002] [] ?_
  cases hm
  exact A.ret qE
 refine qF c2 ?_
 refine A.skip ?_
 show ah _ _ _ _ _
 refine A.seq ?_
 refine qDs [(2, hto (lnE aH t.ay)), (5, hto (lnE bu t.Links))] [18] [(29, .bool (decide (length < w64 ((t.ay.length:Int) + (w64 ((2:Int) * (t.Links.length:Int)))))))] ?_
 rcases aq hm with ⟨c3,hm⟩|⟨c3,hm⟩
 ·refine qT c3 ?_
  refine qD [] [1, 2, 29] [(5, i6 3)] [23002] [] ?_
  cases hm
  exact A.ret qE
 refine qF c3 ?_
 refine A.skip ?_
 show ah _ _ _ _ _
 refine qD [(2, .al 23006)] [1, 29] [(6, .ptr 23006 0)] [] [(23006, .cells 36 [i6 length, .bf])] ?_
 refine qDs [] [] [(7, .fn 58 [.ptr 23006 0])] ?_
 refine A.seq ?_
 refine qDs [(2, hto (lnE aH t.ay))] [] [(35, lf aH t.ay), (36, i6 (t.ay.length:Int)), (37, i6 0)] ?_
 refine A.block ?_
 refine A.bS 35 rfl fun hb1 => ?_
 obtain ⟨B1, K1, hB1, hK1, hm⟩ := aP hm
 refine A.lpI (l := t.ay) (j0 := 0) (B := B1) (K := K1) hm (fun j1 => fun sg => match sg with | (m_1, m_2) => [(2, .ptr 23002 0), (4, .ptr 23004 0), (6, .ptr 23006 0), (7, .fn 58 [.ptr 23006 0]), (35, lf aH t.ay), (36, i6 (t.ay.length:Int)), (37, i6 (j1 : Int))]) (fun j1 => fun sg => match sg with | (m_1, m_2) => [(23002, .cells 32 (k2 t)), (23004, .cells 36 [i6 0, .bf]), (23006, .cells 36 [i6 m_1, .own 702300601]), (702300601, .slice 64 4 (ml af m_2) 0 false)]) ?_ ?_ ?_
 ·exact bp.go [.ac 23006 702300601 64 4 1] [] (by kernel_rfl)
 ·rintro j1 e1 Z1 ⟨m_1, m_2⟩ hj1 hx1 hm
  rw [hB1] at hm
  refine qDs [] [] [(38, .bool (decide ((j1 : Int) < (t.ay.length:Int))))] ?_
  refine A.seq ?_
  refine qT (ltT hx1) ?_
  refine A.skip ?_
  show ah _ _ _ _ _
  refine A.seq ?_
  refine A.block ?_
  refine qD [(0, hix (ix aH (aY hx1))), (2, .al 23009)] [38] [(9, .ptr 23009 0)] [] [(23009, .cells 57 (k0 e1))] ?_
  obtain ⟨aI, h3, hm⟩ := aa hm
  refine qD [(5, hdc [520023001] (SC.at [(800058000, 23006), (800058500, 702300601), (800058501, 520023001)] (oE h3)) alp)] [] [] [23006, 702300601] [(23006, .cells 36 [i6 aI.1, .own 520023001]), (520023001, .slice 64 4 (ml af aI.2) 0 false)] ?_
  obtain ⟨aU, h4, hm⟩ := aa hm
  refine qDs [(3, hro (rO h4) ck59), (4, hto (lnE aA aU))] [] [(50, lf aA aU), (51, i6 (aU.length:Int)), (52, i6 0)] ?_
  refine A.block ?_
  refine A.bS 50 rfl fun hb2 => ?_
  obtain ⟨B2, K2, hB2, hK2, hm⟩ := aP hm
  refine A.lpI (l := aU) (j0 := 0) (B := B2) (K := K2) hm (fun j2 => fun sg => match sg with | (m_3, m_4) => [(2, .ptr 23002 0), (4, .ptr 23004 0), (6, .ptr 23006 0), (7, .fn 58 [.ptr 23006 0]), (9, .ptr 23009 0), (35, lf aH t.ay), (36, i6 (t.ay.length:Int)), (37, i6 (j1 : Int)), (50, lf aA aU), (51, i6 (aU.length:Int)), (52, i6 (j2 : Int))]) (fun j2 => fun sg => match sg with | (m_3, m_4) => [(23002, .cells 32 (k2 t)), (23004, .cells 36 [i6 0, .bf]), (23006, .cells 36 [i6 m_3, .own 702300601]), (23009, .cells 57 (k0 e1)), (702300601, .slice 64 4 (ml af m_4) 0 false)]) ?_ ?_ ?_
  ·exact bp.go [.sw 520023001 702300601] [] (by kernel_rfl)
  ·rintro j2 e2 Z2 ⟨m_3, m_4⟩ hj2 hx2 hm
   rw [hB2] at hm
   refine qDs [] [] [(53, .bool (decide ((j2 : Int) < (aU.length:Int))))] ?_
   refine A.seq ?_
   refine qT (ltT hx2) ?_
   refine A.skip ?_
   show ah _ _ _ _ _
   refine A.seq ?_
   refine A.block ?_
   refine qDs [(0, hix (ix aA (aY hx2)))] [53] [(11, i6 e2)] ?_
   obtain ⟨aX, h5, hm⟩ := aa hm
   refine qG [(4, hdc [520023002] (SC.at [(800058000, 23006), (800058500, 702300601), (800058501, 520023002)] (oE h5)) alp)] [11] [] [23006, 702300601] [(23006, .cells 36 [i6 aX.1, .own 520023002]), (520023002, .slice 64 4 (ml af aX.2) 0 false)] ?_
   show ah _ _ _ _ _
   refine qGs [(0, hto (inc hx2 hb2))] [52] [(52, i6 ((j2 + 1 : Nat) : Int))] ?_
   exact Exists.intro (aX.1, aX.2) (And.intro hm (bp.go [.sw 520023002 702300601] [] (by kernel_rfl)))
  rintro j2 ⟨m_3, m_4⟩ hj2 hl2 hm
  rw [hK2] at hm
  refine qDs [] [] [(53, .bool (decide ((j2 : Int) < (aU.length:Int))))] ?_
  refine A.seq ?_
  refine qF (ltF hl2) ?_
  refine A.exit ?_
  show ah _ _ _ _ _
  refine qG [(0, hto (inc hx1 hb1))] [9, 37, 50, 51, 52, 53] [(37, i6 ((j1 + 1 : Nat) : Int))] [23009] [] ?_
  exact qX (m_3, m_4) hm
 rintro j1 ⟨m_1, m_2⟩ hj1 hl1 hm
 rw [hK1] at hm
 refine qDs [] [] [(38, .bool (decide ((j1 : Int) < (t.ay.length:Int))))] ?_
 refine A.seq ?_
 refine qF (ltF hl1) ?_
 refine A.exit ?_
 show ah _ _ _ _ _
 refine qD [] [2, 6, 7, 35, 36, 37, 38] [(5, i6 0)] [23002, 23004, 23006] [(23004, .cells 36 [i6 m_1, .own 702300601])] ?_
 refine A.ret ?_
 obtain rfl := some_inj hm
 exact A.fin W0 [.fz [702300601]] rfl (by kernel_rfl)
theorem sR {t : bB} {r : (List (Int × Bool))} (hm : gN t = some r) : RO Try.prog 48 [] [.agg (k7 t)] (.mpf (cD .i64 vB r)) := by
 refine aZ Try.func48 rfl rfl ?_
 unfold gN at hm
 refine qS [(0, .al 48001)] [(1, .ptr 48001 0)] [(48001, .cells 25 (k7 t))] ?_
 refine qD [(0, .al 48007), (3, hmu (mu (k := .i64) (enc := vB) [] t.bL true rfl))] [] [(3, .cw 48007)] [] [(48007, .map 3 4 (cD .i64 vB (gz [] t.bL true)))] ?_
 refine A.seq ?_
 refine qDs [] [] [(4, .bool true)] ?_
 refine A.block ?_
 obtain ⟨F1, n1, hF1, hm⟩ := iJ hm
 refine A.lpW (F := F1) hm (fun sg => match sg with | (qP, m_1) => [(1, .ptr 48001 0), (3, .cw 48007), (4, .bool qP)]) (fun sg => match sg with | (qP, m_1) => [(48001, .cells 25 (k7 t)), (48007, .map 3 4 (cD .i64 vB m_1))]) ?_ ?_
 ·exact qW
 rintro Z1 ⟨qP, m_1⟩ hm
 rw [hF1] at hm
 refine A.seq ?_
 refine qDs [] [] [(11, .bool qP)] ?_
 rcases aq hm with ⟨c1,hm⟩|⟨c1,hm⟩
 ·refine qT c1 ?_
  refine A.skip ?_
  show ah _ _ _ _ _
  refine A.block ?_
  refine qDs [] [4, 11] [(4, .bool false)] ?_
  refine qDs [(2, hto (lnE aJ t.Links))] [] [(13, lf aJ t.Links), (14, i6 (t.Links.length:Int)), (15, i6 0)] ?_
  refine A.block ?_
  refine A.bS 13 rfl fun hb2 => ?_
  obtain ⟨B2, K2, hB2, hK2, hm⟩ := aP hm
  refine A.lpI (l := t.Links) (j0 := 0) (B := B2) (K := K2) hm (fun j2 => fun sg => match sg with | (kW, m_2) => [(1, .ptr 48001 0), (3, .cw 48007), (4, .bool kW), (13, lf aJ t.Links), (14, i6 (t.Links.length:Int)), (15, i6 (j2 : Int))]) (fun j2 => fun sg => match sg with | (kW, m_2) => [(48001, .cells 25 (k7 t)), (48007, .map 3 4 (cD .i64 vB m_2))]) ?_ ?_ ?_
  ·exact qW
  ·rintro j2 e2 Z2 ⟨kW, m_2⟩ hj2 hx2 hm
   rw [hB2] at hm
   refine qDs [] [] [(16, .bool (decide ((j2 : Int) < (t.Links.length:Int))))] ?_
   refine A.seq ?_
   refine qT (ltT hx2) ?_
   refine A.skip ?_
   show ah _ _ _ _ _
   obtain ⟨J1, hJ1, hm⟩ := bN hm
   refine A.J (J := J1) (r := r) (fun sg => match sg with | (qQ, m_3) => [(1, .ptr 48001 0), (3, .cw 48007), (4, .bool qQ), (13, lf aJ t.Links), (14, i6 (t.Links.length:Int)), (15, i6 (j2 : Int))]) (fun sg => match sg with | (qQ, m_3) => [(48001, .cells 25 (k7 t)), (48007, .map 3 4 (cD .i64 vB m_3))]) ?_ ?_
   ·refine A.block ?_
    refine qD [(0, hix (ix aJ (aY hx2))), (2, .al 48006)] [16] [(6, .ptr 48006 0)] [] [(48006, .cells 79 (k6 e2))] ?_
    refine A.mid [(1, .ptr 48001 0), (3, .cw 48007), (4, .bool kW), (13, lf aJ t.Links), (14, i6 (t.Links.length:Int)), (15, i6 (j2 : Int)), (6, .ptr 48006 0), (29, .bool (((cB m_2 e2.bJ).getD false) && (!((cB m_2 e2.To).getD false))))] [(48001, .cells 25 (k7 t)), (48007, .map 3 4 (cD .i64 vB m_2)), (48006, .cells 79 (k6 e2))] (fun hk => ?_) ?_
    ·rcases tf ((cB m_2 e2.bJ).getD false) with c2 | c2
     ·exact qS [(3, hlk (lk (E := 4) (k := .i64) (enc := vB) m_2 e2.bJ false (fun w => ⟨_, Try.zeroValue4 w, fun I => by simp [aD, vI, vB]⟩))), (4, hto (bE c2)), (8, hlk (lk (E := 4) (k := .i64) (enc := vB) m_2 e2.To false (fun w => ⟨_, Try.zeroValue4 w, fun I => by simp [aD, vI, vB]⟩))), (10, hto (lG (q := !((cB m_2 e2.To).getD false)) c2))] _ _ hk
     exact qS [(3, hlk (lk (E := 4) (k := .i64) (enc := vB) m_2 e2.bJ false (fun w => ⟨_, Try.zeroValue4 w, fun I => by simp [aD, vI, vB]⟩))), (4, hto (bE c2)), (10, hto (mI (q := !((cB m_2 e2.To).getD false)) c2))] _ _ hk
    rcases aq hm with ⟨c3,hm⟩|⟨c3,hm⟩
    ·refine qT c3 ?_
     refine qG [(3, hmu (mu (k := .i64) (enc := vB) m_2 e2.To true rfl))] [4, 6, 29] [(4, .bool true)] [48007, 48006] [(48007, .map 3 4 (cD .i64 vB (gz m_2 e2.To true)))] ?_
     exact qX (true, gz m_2 e2.To true) hm
    refine qF c3 ?_
    refine A.skip ?_
    exact qX (kW, m_2) hm
   rintro ⟨qQ, m_3⟩ hm
   rw [hJ1] at hm
   refine qGs [(0, hto (inc hx2 hb2))] [15] [(15, i6 ((j2 + 1 : Nat) : Int))] ?_
   exact qX (qQ, m_3) hm
  rintro j2 ⟨kW, m_2⟩ hj2 hl2 hm
  rw [hK2] at hm
  refine qDs [] [] [(16, .bool (decide ((j2 : Int) < (t.Links.length:Int))))] ?_
  refine A.seq ?_
  refine qF (ltF hl2) ?_
  refine A.exit ?_
  exact qX (kW, m_2) hm
 refine qF c1 ?_
 refine A.exit ?_
 show ah _ _ _ _ _
 refine qD [] [1, 3, 4, 11] [(2, .cw 48007)] [48001] [] ?_
 refine A.ret ?_
 obtain rfl := some_inj hm
 exact A.fin W0 [.fz [48007]] rfl (by kernel_rfl)
theorem gE {t : bB} {r : Int} (hm : ei t = some r) : RO Try.prog 14 [] [.agg (k7 t)] (i6 r) := by
 refine aZ Try.func14 rfl rfl ?_
 unfold ei at hm
 refine qS [(0, .al 14001)] [(1, .ptr 14001 0)] [(14001, .cells 25 (k7 t))] ?_
 refine A.seq ?_
 obtain ⟨ak, h1, hm⟩ := aa hm
 refine qDs [(2, hro (en h1) xd)] [] [(17, .bool (!ak))] ?_
 rcases aq hm with ⟨c1,hm⟩|⟨c1,hm⟩
 ·refine qT c1 ?_
  refine qS [] [(2, i6 2)] [] ?_
  cases hm
  exact A.ret qE
 refine qF c1 ?_
 refine A.skip ?_
 show ah _ _ _ _ _
 refine A.seq ?_
 refine qDs [(2, hto (lnE aJ t.Links))] [17] [(19, lf aJ t.Links), (20, i6 (t.Links.length:Int)), (21, i6 0)] ?_
 refine A.block ?_
 refine A.bS 19 rfl fun hb1 => ?_
 obtain ⟨B1, K1, hB1, hK1, hm⟩ := aP hm
 refine A.lpI (l := t.Links) (j0 := 0) (B := B1) (K := K1) hm (fun j1 => fun sg => match sg with | () => [(1, .ptr 14001 0), (19, lf aJ t.Links), (20, i6 (t.Links.length:Int)), (21, i6 (j1 : Int))]) (fun j1 => fun sg => match sg with | () => [(14001, .cells 25 (k7 t))]) ?_ ?_ ?_
 ·exact qW
 ·rintro j1 e1 Z1 ⟨⟩ hj1 hx1 hm
  rw [hB1] at hm
  refine qDs [] [] [(22, .bool (decide ((j1 : Int) < (t.Links.length:Int))))] ?_
  refine A.seq ?_
  refine qT (ltT hx1) ?_
  refine A.skip ?_
  show ah _ _ _ _ _
  refine A.seq ?_
  refine A.block ?_
  refine qD [(0, hix (ix aJ (aY hx1))), (2, .al 14004)] [22] [(4, .ptr 14004 0)] [] [(14004, .cells 79 (k6 e1))] ?_
  obtain ⟨J1, hJ1, hm⟩ := bN hm
  refine A.J (J := J1) (r := r) (fun v_1 => [(1, .ptr 14001 0), (19, lf aJ t.Links), (20, i6 (t.Links.length:Int)), (21, i6 (j1 : Int)), (34, .bool v_1)]) (fun v_1 => [(14001, .cells 25 (k7 t))]) ?_ ?_
  ·obtain ⟨aF, h2, hm⟩ := aa hm
   rcases aq hm with ⟨c2,hm⟩|⟨c2,hm⟩
   ·refine qG [(2, hro (en h2) xd), (4, hto (bE c2))] [4] [(34, .bool true)] [14004] [] ?_
    exact qX true hm
   obtain ⟨aI, h3, hm⟩ := aa hm
   refine qG [(2, hro (en h2) xd), (4, hto (bE c2)), (7, hro (en h3) xd)] [4] [(34, .bool (!aI))] [14004] [] ?_
   exact qX (!aI) hm
  rintro v_1 hm
  rw [hJ1] at hm
  rcases aq hm with ⟨c3,hm⟩|⟨c3,hm⟩
  ·refine qT c3 ?_
   refine qS [] [(2, i6 2)] [] ?_
   cases hm
   exact A.ret qE
  refine qF c3 ?_
  refine A.skip ?_
  show ah _ _ _ _ _
  refine qGs [(0, hto (inc hx1 hb1))] [21, 34] [(21, i6 ((j1 + 1 : Nat) : Int))] ?_
  exact qX () hm
 rintro j1 ⟨⟩ hj1 hl1 hm
 rw [hK1] at hm
 refine qDs [] [] [(22, .bool (decide ((j1 : Int) < (t.Links.length:Int))))] ?_
 refine A.seq ?_
 refine qF (ltF hl1) ?_
 refine A.exit ?_
 show ah _ _ _ _ _
 refine A.seq ?_
 refine qDs [] [19, 20, 21, 22] [(5, i6 1)] ?_
 refine A.block ?_
 refine A.bC 1 1 rfl rfl rfl fun hb2 => ?_
 obtain ⟨B2, K2, hB2, hK2, hm⟩ := aP hm
 refine A.lpI (l := t.Links) (j0 := 1) (B := B2) (K := K2) hm (fun j2 => fun sg => match sg with | () => [(1, .ptr 14001 0), (5, i6 (j2 : Int))]) (fun j2 => fun sg => match sg with | () => [(14001, .cells 25 (k7 t))]) ?_ ?_ ?_
 ·exact qW
 ·rintro j2 e2 Z2 ⟨⟩ hj2 hx2 hm
  rw [hB2] at hm
  refine A.seq ?_
  refine qDs [(3, hto (lnE aJ t.Links))] [] [(40, .bool (decide ((j2 : Int) < (t.Links.length:Int))))] ?_
  refine qT (ltT hx2) ?_
  refine A.skip ?_
  show ah _ _ _ _ _
  refine A.seq ?_
  refine A.block ?_
  obtain ⟨e_1, h4, hm⟩ := aa hm
  refine qD [(4, hix (ix aJ h4)), (9, hix (ix aJ (aY hx2))), (11, .al 14006), (12, .al 14007)] [40] [(6, .ptr 14006 0), (7, .ptr 14007 0)] [] [(14006, .cells 79 (k6 e_1)), (14007, .cells 79 (k6 e2))] ?_
  obtain ⟨aU, h5, hm⟩ := aa hm
  obtain ⟨aX, h6, hm⟩ := aa hm
  obtain ⟨aS, h7, hm⟩ := aa hm
  refine qD [(4, hro (gD h5) aal), (9, hro (gD h6) aal), (11, hro (sv h7) alj)] [6, 7] [(66, .bool (decide ((0:Int) ≤ aS)))] [14006, 14007] [] ?_
  rcases aq hm with ⟨c4,hm⟩|⟨c4,hm⟩
  ·refine qT c4 ?_
   refine qS [] [(2, i6 25)] [] ?_
   cases hm
   exact A.ret qE
  refine qF c4 ?_
  refine A.skip ?_
  show ah _ _ _ _ _
  refine qGs [(1, hto (inc hx2 hb2))] [5, 66] [(5, i6 ((j2 + 1 : Nat) : Int))] ?_
  exact qX () hm
 rintro j2 ⟨⟩ hj2 hl2 hm
 rw [hK2] at hm
 refine A.seq ?_
 refine qDs [(3, hto (lnE aJ t.Links))] [] [(40, .bool (decide ((j2 : Int) < (t.Links.length:Int))))] ?_
 refine qF (ltF hl2) ?_
 refine A.exit ?_
 show ah _ _ _ _ _
 refine qD [(0, .al 14067), (3, hmu (mu (k := .i64) (enc := vB) [] t.bL true rfl))] [5, 40] [(8, .cw 14067)] [] [(14067, .map 3 4 (cD .i64 vB (gz [] t.bL true)))] ?_
 refine A.seq ?_
 refine qDs [(2, hto (lnE aJ t.Links))] [] [(72, lf aJ t.Links), (73, i6 (t.Links.length:Int)), (74, i6 0)] ?_
 refine A.block ?_
 refine A.bS 72 rfl fun hb3 => ?_
 obtain ⟨B3, K3, hB3, hK3, hm⟩ := aP hm
 refine A.lpI (l := t.Links) (j0 := 0) (B := B3) (K := K3) hm (fun j3 => fun m_1 => [(1, .ptr 14001 0), (8, .cw 14067), (72, lf aJ t.Links), (73, i6 (t.Links.length:Int)), (74, i6 (j3 : Int))]) (fun j3 => fun m_1 => [(14001, .cells 25 (k7 t)), (14067, .map 3 4 (cD .i64 vB m_1))]) ?_ ?_ ?_
 ·exact qW
 ·rintro j3 e3 Z3 m_1 hj3 hx3 hm
  rw [hB3] at hm
  refine qDs [] [] [(75, .bool (decide ((j3 : Int) < (t.Links.length:Int))))] ?_
  refine A.seq ?_
  refine qT (ltT hx3) ?_
  refine A.skip ?_
  show ah _ _ _ _ _
  refine A.seq ?_
  refine A.block ?_
  refine qD [(0, hix (ix aJ (aY hx3))), (2, .al 14010)] [75] [(10, .ptr 14010 0)] [] [(14010, .cells 79 (k6 e3))] ?_
  refine A.seq ?_
  refine qDs [(3, hlk (lk (E := 4) (k := .i64) (enc := vB) m_1 e3.To false (fun w => ⟨_, Try.zeroValue4 w, fun I => by simp [aD, vI, vB]⟩)))] [] [(81, .bool ((cB m_1 e3.To).getD false))] ?_
  rcases aq hm with ⟨c5,hm⟩|⟨c5,hm⟩
  ·refine qT c5 ?_
   refine qS [] [(2, i6 8)] [] ?_
   cases hm
   exact A.ret qE
  refine qF c5 ?_
  refine A.skip ?_
  show ah _ _ _ _ _
  refine qG [(3, hmu (mu (k := .i64) (enc := vB) m_1 e3.To true rfl))] [10, 81] [] [14067, 14010] [(14067, .map 3 4 (cD .i64 vB (gz m_1 e3.To true)))] ?_
  show ah _ _ _ _ _
  refine qGs [(0, hto (inc hx3 hb3))] [74] [(74, i6 ((j3 + 1 : Nat) : Int))] ?_
  exact qX (gz m_1 e3.To true) hm
 rintro j3 m_1 hj3 hl3 hm
 rw [hK3] at hm
 refine qDs [] [] [(75, .bool (decide ((j3 : Int) < (t.Links.length:Int))))] ?_
 refine A.seq ?_
 refine qF (ltF hl3) ?_
 refine A.exit ?_
 show ah _ _ _ _ _
 obtain ⟨bh, h8, hm⟩ := aa hm
 refine qD [(1, hro (sR h8) ck48)] [8, 72, 73, 74, 75] [(11, .mpf (cD .i64 vB bh))] [14067] [] ?_
 refine A.seq ?_
 refine qD [(2, hto (lnE aJ t.Links))] [1] [(89, lf aJ t.Links), (90, i6 (t.Links.length:Int)), (91, i6 0)] [14001] [] ?_
 refine A.block ?_
 refine A.bS 89 rfl fun hb4 => ?_
 obtain ⟨B4, K4, hB4, hK4, hm⟩ := aP hm
 refine A.lpI (l := t.Links) (j0 := 0) (B := B4) (K := K4) hm (fun j4 => fun sg => match sg with | () => [(11, .mpf (cD .i64 vB bh)), (89, lf aJ t.Links), (90, i6 (t.Links.length:Int)), (91, i6 (j4 : Int))]) (fun j4 => fun sg => match sg with | () => []) ?_ ?_ ?_
 ·exact qW
 ·rintro j4 e4 Z4 ⟨⟩ hj4 hx4 hm
  rw [hB4] at hm
  refine qDs [] [] [(92, .bool (decide ((j4 : Int) < (t.Links.length:Int))))] ?_
  refine A.seq ?_
  refine qT (ltT hx4) ?_
  refine A.skip ?_
  show ah _ _ _ _ _
  refine A.seq ?_
  refine A.block ?_
  refine qD [(0, hix (ix aJ (aY hx4))), (2, .al 14013)] [92] [(13, .ptr 14013 0)] [] [(14013, .cells 79 (k6 e4))] ?_
  refine qD [(3, hlf bh e4.bJ vB false afF (zB Try.zeroValue4))] [13] [(99, .bool (!((cB bh e4.bJ).getD false)))] [14013] [] ?_
  rcases aq hm with ⟨c6,hm⟩|⟨c6,hm⟩
  ·refine qT c6 ?_
   refine qS [] [(2, i6 10)] [] ?_
   cases hm
   exact A.ret qE
  refine qF c6 ?_
  refine A.skip ?_
  show ah _ _ _ _ _
  refine qGs [(0, hto (inc hx4 hb4))] [91, 99] [(91, i6 ((j4 + 1 : Nat) : Int))] ?_
  exact qX () hm
 rintro j4 ⟨⟩ hj4 hl4 hm
 rw [hK4] at hm
 refine qDs [] [] [(92, .bool (decide ((j4 : Int) < (t.Links.length:Int))))] ?_
 refine A.seq ?_
 refine qF (ltF hl4) ?_
 refine A.exit ?_
 show ah _ _ _ _ _
 refine qS [] [(2, i6 0)] [] ?_
 cases hm
 exact A.ret qE
theorem nM {t : bB} {r : (List Int)} (hm : fL t = some r) : RO Try.prog 17 [] [.agg (k7 t)] (lf aA r) := by
 refine aZ Try.func17 rfl rfl ?_
 unfold fL at hm
 refine qS [(0, .al 17001)] [(1, .ptr 17001 0)] [(17001, .cells 25 (k7 t))] ?_
 refine A.seq ?_
 obtain ⟨ak, h1, hm⟩ := aa hm
 refine qDs [(1, hro (gE h1) ab1)] [] [(8, .bool (!decide (ak = (0:Int))))] ?_
 rcases aq hm with ⟨c1,hm⟩|⟨c1,hm⟩
 ·refine qT c1 ?_
  refine qS [] [(2, .bf)] [] ?_
  cases hm
  exact A.ret qE
 refine qF c1 ?_
 refine A.skip ?_
 show ah _ _ _ _ _
 refine qD [(2, .al 17011)] [8] [(3, .own 17011)] [] [(17011, .slice 3 1 (ml aA ([t.bL] : List Int)) 0 false)] ?_
 refine A.seq ?_
 refine qD [(2, hto (lnE aJ t.Links))] [1] [(13, lf aJ t.Links), (14, i6 (t.Links.length:Int)), (15, i6 0)] [17001] [] ?_
 refine A.block ?_
 refine A.bS 13 rfl fun hb1 => ?_
 obtain ⟨B1, K1, hB1, hK1, hm⟩ := aP hm
 refine A.lpI (l := t.Links) (j0 := 0) (B := B1) (K := K1) hm (fun j1 => fun bO => [(3, .own 600017003), (13, lf aJ t.Links), (14, i6 (t.Links.length:Int)), (15, i6 (j1 : Int))]) (fun j1 => fun bO => [(600017003, .slice 3 1 (ml aA bO) 0 false)]) ?_ ?_ ?_
 ·exact bp.go [.sw 17011 600017003] [] (by kernel_rfl)
 ·rintro j1 e1 Z1 bO hj1 hx1 hm
  rw [hB1] at hm
  refine qDs [] [] [(16, .bool (decide ((j1 : Int) < (t.Links.length:Int))))] ?_
  refine A.seq ?_
  refine qT (ltT hx1) ?_
  refine A.skip ?_
  show ah _ _ _ _ _
  refine A.seq ?_
  refine A.block ?_
  refine qD [(0, hix (ix aJ (aY hx1))), (2, .al 17005)] [16] [(5, .ptr 17005 0)] [] [(17005, .cells 79 (k6 e1))] ?_
  obtain ⟨l_1, h2, hm⟩ := aa hm
  refine qG [(4, hap 17523 (ap aA (bytes := 8) (by decide) h2))] [3, 5] [(3, .own 17523)] [600017003, 17005] [(17523, .slice 3 1 (ml aA l_1) 0 false)] ?_
  show ah _ _ _ _ _
  refine qGs [(0, hto (inc hx1 hb1))] [15] [(15, i6 ((j1 + 1 : Nat) : Int))] ?_
  exact Exists.intro l_1 (And.intro hm (bp.go [.sw 17523 600017003] [] (by kernel_rfl)))
 rintro j1 bO hj1 hl1 hm
 rw [hK1] at hm
 refine qDs [] [] [(16, .bool (decide ((j1 : Int) < (t.Links.length:Int))))] ?_
 refine A.seq ?_
 refine qF (ltF hl1) ?_
 refine A.exit ?_
 show ah _ _ _ _ _
 obtain ⟨h3, hm⟩ := eP hm
 refine qS [(1, hdc [] (aam (d := 600017003) (T := 3) bO (of_decide_eq_true h3)) alk)] [(3, .own 600017003)] [(600017003, .slice 3 1 (ml aA (gA bO)) 0 false)] ?_
 refine qDs [] [3] [(2, .own 600017003)] ?_
 refine A.ret ?_
 obtain rfl := some_inj hm
 exact A.fin W0 [.fz [600017003]] rfl (by kernel_rfl)
theorem jA {e : aB} {t : bB} {receivers : List Int} {r : Int × Int} (hm : fk e t receivers = some r) : RO Try.prog 21 [] [.agg (k5 e), .agg (k7 t), lf aA receivers] (.tup [.int .u64 r.1, i6 r.2]) := by
 refine aZ Try.func21 rfl rfl ?_
 unfold fk at hm
 refine qS [(0, .al 21003), (1, .al 21004)] [(2, lf aA receivers), (3, .ptr 21003 0), (4, .ptr 21004 0)] [(21003, .cells 36 (k5 e)), (21004, .cells 25 (k7 t))] ?_
 refine A.seq ?_
 obtain ⟨ak, h1, hm⟩ := aa hm
 obtain ⟨aF, h2, hm⟩ := aa hm
 obtain ⟨aI, h3, hm⟩ := aa hm
 refine qDs [(1, hro (ez h1) yH), (3, hro (gE h2) ab1), (5, hro (td h3) ck52)] [] [(8, i6 aI)] ?_
 refine qDs [] [] [(30, .bool (!decide (aI = (0:Int))))] ?_
 rcases aq hm with ⟨c1,hm⟩|⟨c1,hm⟩
 ·refine qT c1 ?_
  refine qS [] [(6, .int .u64 (0:Int)), (7, i6 aI)] [] ?_
  cases hm
  exact A.ret qE
 refine qF c1 ?_
 refine A.skip ?_
 show ah _ _ _ _ _
 refine A.seq ?_
 refine qDs [] [8, 30] [(9, i6 1)] ?_
 refine A.block ?_
 refine A.bS 2 rfl fun hb1 => ?_
 obtain ⟨B1, K1, hB1, hK1, hm⟩ := aP hm
 refine A.lpI (l := receivers) (j0 := 1) (B := B1) (K := K1) hm (fun j1 => fun sg => match sg with | () => [(2, lf aA receivers), (3, .ptr 21003 0), (4, .ptr 21004 0), (9, i6 (j1 : Int))]) (fun j1 => fun sg => match sg with | () => [(21003, .cells 36 (k5 e)), (21004, .cells 25 (k7 t))]) ?_ ?_ ?_
 ·exact qW
 ·rintro j1 e1 Z1 ⟨⟩ hj1 hx1 hm
  rw [hB1] at hm
  refine A.seq ?_
  refine qDs [(2, hto (lnE aA receivers))] [] [(35, .bool (decide ((j1 : Int) < (receivers.length:Int))))] ?_
  refine qT (ltT hx1) ?_
  refine A.skip ?_
  show ah _ _ _ _ _
  refine A.seq ?_
  refine A.block ?_
  obtain ⟨e_1, h4, hm⟩ := aa hm
  refine qDs [(3, hix (ix aA h4)), (7, hix (ix aA (aY hx1)))] [35] [(47, .bool (decide (e1 ≤ e_1)))] ?_
  rcases aq hm with ⟨c2,hm⟩|⟨c2,hm⟩
  ·refine qT c2 ?_
   refine qS [] [(6, .int .u64 (0:Int)), (7, i6 25)] [] ?_
   cases hm
   exact A.ret qE
  refine qF c2 ?_
  refine A.skip ?_
  show ah _ _ _ _ _
  refine qGs [(1, hto (inc hx1 hb1))] [9, 47] [(9, i6 ((j1 + 1 : Nat) : Int))] ?_
  exact qX () hm
 rintro j1 ⟨⟩ hj1 hl1 hm
 rw [hK1] at hm
 refine A.seq ?_
 refine qDs [(2, hto (lnE aA receivers))] [] [(35, .bool (decide ((j1 : Int) < (receivers.length:Int))))] ?_
 refine qF (ltF hl1) ?_
 refine A.exit ?_
 show ah _ _ _ _ _
 obtain ⟨aU, h5, hm⟩ := aa hm
 refine qDs [(1, hro (nM h5) ald)] [9, 35] [(10, lf aA aU)] ?_
 refine qDs [] [] [(11, .bf)] ?_
 refine A.seq ?_
 refine qDs [(1, hto (lnE aA receivers))] [2] [(50, lf aA receivers), (51, i6 (receivers.length:Int)), (52, i6 0)] ?_
 refine A.block ?_
 refine A.bS 50 rfl fun hb2 => ?_
 obtain ⟨B2, K2, hB2, hK2, hm⟩ := aP hm
 refine A.lpI (l := receivers) (j0 := 0) (B := B2) (K := K2) hm (fun j2 => fun mR => [(3, .ptr 21003 0), (4, .ptr 21004 0), (10, lf aA aU), (11, .own 600021011), (50, lf aA receivers), (51, i6 (receivers.length:Int)), (52, i6 (j2 : Int))]) (fun j2 => fun mR => [(21003, .cells 36 (k5 e)), (21004, .cells 25 (k7 t)), (600021011, .slice 99 3 (ml cm mR) 0 false)]) ?_ ?_ ?_
 ·exact bp.go [.ad 11 600021011 99 3] [] (by kernel_rfl)
 ·rintro j2 e2 Z2 mR hj2 hx2 hm
  rw [hB2] at hm
  refine qDs [] [] [(53, .bool (decide ((j2 : Int) < (receivers.length:Int))))] ?_
  refine A.seq ?_
  refine qT (ltT hx2) ?_
  refine A.skip ?_
  show ah _ _ _ _ _
  refine A.seq ?_
  refine A.block ?_
  refine qDs [(0, hix (ix aA (aY hx2)))] [53] [(13, i6 e2)] ?_
  refine A.seq ?_
  obtain ⟨aX, h6, hm⟩ := aa hm
  refine qDs [(2, hro (nL h6) ck53)] [] [(15, .bool aX.2)] ?_
  refine qDs [] [15] [(63, .bool (!aX.2))] ?_
  rcases aq hm with ⟨c3,hm⟩|⟨c3,hm⟩
  ·refine qT c3 ?_
   refine qS [] [(6, .int .u64 (0:Int)), (7, i6 8)] [] ?_
   cases hm
   exact A.ret qE
  refine qF c3 ?_
  refine A.skip ?_
  show ah _ _ _ _ _
  obtain ⟨l_1, h7, hm⟩ := aa hm
  refine qG [(5, hap 21569 (ap cm (bytes := 24) (by decide) h7))] [11, 13, 63] [(11, .own 21569)] [600021011] [(21569, .slice 99 3 (ml cm l_1) 0 false)] ?_
  show ah _ _ _ _ _
  refine qGs [(0, hto (inc hx2 hb2))] [52] [(52, i6 ((j2 + 1 : Nat) : Int))] ?_
  exact Exists.intro l_1 (And.intro hm (bp.go [.sw 21569 600021011] [] (by kernel_rfl)))
 rintro j2 mR hj2 hl2 hm
 rw [hK2] at hm
 refine qDs [] [] [(53, .bool (decide ((j2 : Int) < (receivers.length:Int))))] ?_
 refine A.seq ?_
 refine qF (ltF hl2) ?_
 refine A.exit ?_
 show ah _ _ _ _ _
 refine A.seq ?_
 refine qD [(2, hto (lnE aJ t.Links))] [4, 10, 50, 51, 52, 53] [(72, lf aJ t.Links), (73, i6 (t.Links.length:Int)), (74, i6 0)] [21004] [] ?_
 refine A.block ?_
 refine A.bS 72 rfl fun hb3 => ?_
 obtain ⟨B3, K3, hB3, hK3, hm⟩ := aP hm
 refine A.lpI (l := t.Links) (j0 := 0) (B := B3) (K := K3) hm (fun j3 => fun gb => [(3, .ptr 21003 0), (11, .own 600021011), (72, lf aJ t.Links), (73, i6 (t.Links.length:Int)), (74, i6 (j3 : Int))]) (fun j3 => fun gb => [(21003, .cells 36 (k5 e)), (600021011, .slice 99 3 (ml cm gb) 0 false)]) ?_ ?_ ?_
 ·exact qW
 ·rintro j3 e3 Z3 gb hj3 hx3 hm
  rw [hB3] at hm
  refine qDs [] [] [(75, .bool (decide ((j3 : Int) < (t.Links.length:Int))))] ?_
  refine A.seq ?_
  refine qT (ltT hx3) ?_
  refine A.skip ?_
  show ah _ _ _ _ _
  refine A.seq ?_
  refine A.block ?_
  refine qD [(0, hix (ix aJ (aY hx3))), (2, .al 21017)] [75] [(17, .ptr 21017 0)] [] [(21017, .cells 79 (k6 e3))] ?_
  obtain ⟨l_2, h8, hm⟩ := aa hm
  refine qG [(7, hap 21585 (ap cm (bytes := 24) (by decide) h8))] [11, 17] [(11, .own 21585)] [600021011, 21017] [(21585, .slice 99 3 (ml cm l_2) 0 false)] ?_
  show ah _ _ _ _ _
  refine qGs [(0, hto (inc hx3 hb3))] [74] [(74, i6 ((j3 + 1 : Nat) : Int))] ?_
  exact Exists.intro l_2 (And.intro hm (bp.go [.sw 21585 600021011] [] (by kernel_rfl)))
 rintro j3 gb hj3 hl3 hm
 rw [hK3] at hm
 refine qDs [] [] [(75, .bool (decide ((j3 : Int) < (t.Links.length:Int))))] ?_
 refine A.seq ?_
 refine qF (ltF hl3) ?_
 refine A.exit ?_
 show ah _ _ _ _ _
 refine qDs [] [72, 73, 74, 75] [(18, .int .u64 (0:Int))] ?_
 refine A.seq ?_
 refine qDs [(1, hto (lnE cm gb))] [11] [(87, .own 600021011), (88, i6 (gb.length:Int)), (89, i6 0)] ?_
 refine A.block ?_
 refine A.bW 87 rfl rfl fun hb4 => ?_
 obtain ⟨B4, K4, hB4, hK4, hm⟩ := aP hm
 refine A.lpI (l := gb) (j0 := 0) (B := B4) (K := K4) hm (fun j4 => fun b_1 => [(3, .ptr 21003 0), (18, .int .u64 b_1), (87, .own 600021011), (88, i6 (gb.length:Int)), (89, i6 (j4 : Int))]) (fun j4 => fun b_1 => [(21003, .cells 36 (k5 e)), (600021011, .slice 99 3 (ml cm gb) 0 false)]) ?_ ?_ ?_
 ·exact qW
 ·rintro j4 e4 Z4 b_1 hj4 hx4 hm
  rw [hB4] at hm
  refine qDs [] [] [(90, .bool (decide ((j4 : Int) < (gb.length:Int))))] ?_
  refine A.seq ?_
  refine qT (ltT hx4) ?_
  refine A.skip ?_
  show ah _ _ _ _ _
  refine A.seq ?_
  refine A.block ?_
  refine qD [(0, hix (ix cm (aY hx4))), (1, hlo 600021011 0 (ix cm (aY hx4))), (2, .al 21020)] [90] [(20, .ptr 21020 0)] [] [(21020, .cells 99 (k8 e4))] ?_
  obtain ⟨aS, h9, hm⟩ := aa hm
  refine qD [(2, hro (pG h9) aln)] [20] [(21, i6 aS.1), (22, .bool aS.2)] [21020] [] ?_
  refine A.seq ?_
  refine qDs [] [22] [(100, .bool (!aS.2))] ?_
  rcases aq hm with ⟨c4,hm⟩|⟨c4,hm⟩
  ·refine qT c4 ?_
   refine qS [] [(6, .int .u64 (0:Int)), (7, i6 4)] [] ?_
   cases hm
   exact A.ret qE
  refine qF c4 ?_
  refine A.skip ?_
  show ah _ _ _ _ _
  obtain ⟨h10, hm⟩ := eP hm
  refine qGs [(2, .sh aS.1 (of_decide_eq_true h10))] [18, 21, 100] [(18, .int .u64 (cg .or .u64 b_1 (IntKind.wrap .u64 ((1:Int) * 2 ^ min aS.1.toNat 64))))] ?_
  show ah _ _ _ _ _
  refine qGs [(0, hto (inc hx4 hb4))] [89] [(89, i6 ((j4 + 1 : Nat) : Int))] ?_
  exact qX (cg .or .u64 b_1 (IntKind.wrap .u64 ((1:Int) * 2 ^ min aS.1.toNat 64))) hm
 rintro j4 b_1 hj4 hl4 hm
 rw [hK4] at hm
 refine qDs [] [] [(90, .bool (decide ((j4 : Int) < (gb.length:Int))))] ?_
 refine A.seq ?_
 refine qF (ltF hl4) ?_
 refine A.exit ?_
 show ah _ _ _ _ _
 refine qS [] [(6, .int .u64 b_1), (7, i6 0)] [] ?_
 cases hm
 exact A.ret qE
theorem uE {a : aB} {b : aB} {r : Bool} (hm : jm a b = some r) : RO Try.prog 33 [] [.agg (k5 a), .agg (k5 b)] (.bool r) := by
 refine aZ Try.func33 rfl rfl ?_
 unfold jm at hm
 refine qS [(0, .al 33002), (1, .al 33003)] [(2, .ptr 33002 0), (3, .ptr 33003 0)] [(33002, .cells 36 (k5 a)), (33003, .cells 36 (k5 b))] ?_
 rcases aq hm with ⟨c1,hm⟩|⟨c1,hm⟩
 ·obtain ⟨ak, h1, hm⟩ := aa hm
  refine qS [(5, hto (bE c1)), (10, hro (jF h1) ck66)] [(4, .bool ak)] [] ?_
  cases hm
  exact A.ret qE
 refine qS [(5, hto (bE c1))] [(4, .bool false)] [] ?_
 cases hm
 exact A.ret qE
end Go.Proofs.Ytmfehenfoepkfaa
