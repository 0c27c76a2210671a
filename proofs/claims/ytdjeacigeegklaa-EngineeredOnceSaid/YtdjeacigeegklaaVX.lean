/- The iY of ee of the program. No condition but bL aY stand in each. -/
import Derived.Test.YtdjeacigeegklaaDA
import Derived.Test.YtdjeacigeegklaaV2
import Derived.Test.YtdjeacigeegklaaVW
namespace Go.Proofs.Ytdjeacigeegklaa
open Go
set_option maxRecDepth 100000
set_option linter.all false
theorem qb {n : Int} {r : Bool} (hm : jf n = some r) : RO Try.prog 33 [] [i6 n] (.bool r) := by
 refine bO Try.func33 rfl rfl ?_
 unfold jf at hm
 refine qS [] [(0, i6 n)] [] ?_
 refine A.mid [(2, .bool ((decide (n = (8:Int))) || ((decide (n = (16:Int))) || ((decide (n = (32:Int))) || (decide (n = (64:Int)))))))] [] (fun hk => ?_) ?_
 ·rcases tf (decide (n = (8:Int))) with c1 | c1
  ·exact qS [(2, hto (bE c1)), (14, hto (orT (q := ((decide (n = (16:Int))) || ((decide (n = (32:Int))) || (decide (n = (64:Int)))))) c1))] _ _ hk
  rcases tf (decide (n = (16:Int))) with c2 | c2
  ·exact qS [(2, hto (bE c1)), (6, hto (bE c2)), (14, hto ((orT (q := ((decide (n = (32:Int))) || (decide (n = (64:Int))))) c2).trans (orF (q := ((decide (n = (16:Int))) || ((decide (n = (32:Int))) || (decide (n = (64:Int)))))) c1)))] _ _ hk
  rcases tf (decide (n = (32:Int))) with c3 | c3
  ·exact qS [(2, hto (bE c1)), (6, hto (bE c2)), (10, hto (bE c3)), (14, hto (((orT (q := decide (n = (64:Int))) c3).trans (orF (q := ((decide (n = (32:Int))) || (decide (n = (64:Int))))) c2)).trans (orF (q := ((decide (n = (16:Int))) || ((decide (n = (32:Int))) || (decide (n = (64:Int)))))) c1)))] _ _ hk
  exact qS [(2, hto (bE c1)), (6, hto (bE c2)), (10, hto (bE c3)), (14, hto (((orF (q := decide (n = (64:Int))) c3).trans (orF (q := ((decide (n = (32:Int))) || (decide (n = (64:Int))))) c2)).trans (orF (q := ((decide (n = (16:Int))) || ((decide (n = (32:Int))) || (decide (n = (64:Int)))))) c1)))] _ _ hk
 cases hm
 exact A.ret qE
theorem mP {n : Int} {r : Bool} (hm : kL n = some r) : RO Try.prog 56 [] [i6 n] (.bool r) := by
 refine bO Try.func56 rfl rfl ?_
 unfold kL at hm
 refine qS [] [(0, i6 n)] [] ?_
 refine A.mid [(2, .bool ((decide ((1:Int) ≤ n)) && (decide (n ≤ (99:Int)))))] [] (fun hk => ?_) ?_
 ·rcases tf (decide ((1:Int) ≤ n)) with c1 | c1
  ·exact qS [(2, hto (bE c1)), (6, hto (mM (q := decide (n ≤ (99:Int))) c1))] _ _ hk
  exact qS [(2, hto (bE c1)), (6, hto (oD (q := decide (n ≤ (99:Int))) c1))] _ _ hk
 cases hm
 exact A.ret qE
theorem oK {e : aM} {r : Int} (hm : hU e = some r) : RO Try.prog 31 [] [.agg (k5 e)] (i6 r) := by
 refine bO Try.func31 rfl rfl ?_
 unfold hU at hm
 refine qS [(0, .al 31001)] [(1, .ptr 31001 0)] [(31001, .cells 32 (k5 e))] ?_
 obtain ⟨ay, h1, hm⟩ := af hm
 refine qDs [(2, hro (qb h1) an8)] [] [(3, .bool ay)] ?_
 refine A.seq ?_
 refine qDs [(2, hto (lnE ak e.List))] [] [(19, lf ak e.List), (20, i6 (e.List.length:Int)), (21, i6 0)] ?_
 refine A.block ?_
 refine A.bS 19 rfl fun hb1 => ?_
 obtain ⟨B1, K1, hB1, hK1, hm⟩ := bN hm
 refine A.lpI (l := e.List) (j0 := 0) (B := B1) (K := K1) hm (fun j1 => fun lF => [(1, .ptr 31001 0), (3, .bool lF), (19, lf ak e.List), (20, i6 (e.List.length:Int)), (21, i6 (j1 : Int))]) (fun j1 => fun lF => [(31001, .cells 32 (k5 e))]) ?_ ?_ ?_
 ·exact qW
 ·rintro j1 e1 Z1 lF hj1 hx1 hm
  rw [hB1] at hm
  refine qDs [] [] [(22, .bool (decide ((j1 : Int) < (e.List.length:Int))))] ?_
  refine A.seq ?_
  refine qT (ltT hx1) ?_
  refine A.skip ?_
  show aj _ _ _ _ _
  refine A.seq ?_
  refine A.block ?_
  refine qD [(0, hix (ix ak (b8 hx1))), (2, .al 31005)] [22] [(5, .ptr 31005 0)] [] [(31005, .cells 39 (k4 e1))] ?_
  rcases aA hm with ⟨c1,hm⟩|⟨c1,hm⟩
  ·rcases aA hm with ⟨c2,hm⟩|⟨c2,hm⟩
   ·rcases aA hm with ⟨c3,hm⟩|⟨c3,hm⟩
    ·obtain ⟨aV, h2, hm⟩ := af hm
     rcases aA hm with ⟨c4,hm⟩|⟨c4,hm⟩
     ·obtain ⟨bu, h3, hm⟩ := af hm
      refine qG [(1, hto (bE c1)), (6, hto (bE c2)), (13, hto (bE c3)), (16, hro (mP h2) afu), (18, hto (bE c4)), (21, hro (mP h3) afu)] [3, 5] [(3, .bool bu)] [31005] [] ?_
      show aj _ _ _ _ _
      refine qGs [(0, hto (inc hx1 hb1))] [21] [(21, i6 ((j1 + 1 : Nat) : Int))] ?_
      exact qX bu hm
     refine qG [(1, hto (bE c1)), (6, hto (bE c2)), (13, hto (bE c3)), (16, hro (mP h2) afu), (18, hto (bE c4))] [3, 5] [(3, .bool false)] [31005] [] ?_
     show aj _ _ _ _ _
     refine qGs [(0, hto (inc hx1 hb1))] [21] [(21, i6 ((j1 + 1 : Nat) : Int))] ?_
     exact qX false hm
    refine qG [(1, hto (bE c1)), (6, hto (bE c2)), (13, hto (bE c3))] [3, 5] [(3, .bool false)] [31005] [] ?_
    show aj _ _ _ _ _
    refine qGs [(0, hto (inc hx1 hb1))] [21] [(21, i6 ((j1 + 1 : Nat) : Int))] ?_
    exact qX false hm
   refine qG [(1, hto (bE c1)), (6, hto (bE c2))] [3, 5] [(3, .bool false)] [31005] [] ?_
   show aj _ _ _ _ _
   refine qGs [(0, hto (inc hx1 hb1))] [21] [(21, i6 ((j1 + 1 : Nat) : Int))] ?_
   exact qX false hm
  refine qG [(1, hto (bE c1))] [3, 5] [(3, .bool false)] [31005] [] ?_
  show aj _ _ _ _ _
  refine qGs [(0, hto (inc hx1 hb1))] [21] [(21, i6 ((j1 + 1 : Nat) : Int))] ?_
  exact qX false hm
 rintro j1 lF hj1 hl1 hm
 rw [hK1] at hm
 refine qDs [] [] [(22, .bool (decide ((j1 : Int) < (e.List.length:Int))))] ?_
 refine A.seq ?_
 refine qF (ltF hl1) ?_
 refine A.exit ?_
 show aj _ _ _ _ _
 refine A.seq ?_
 refine qDs [] [3, 19, 20, 21, 22] [(50, .bool (!lF))] ?_
 rcases aA hm with ⟨c5,hm⟩|⟨c5,hm⟩
 ·refine qT c5 ?_
  refine qS [] [(2, i6 2)] [] ?_
  cases hm
  exact A.ret qE
 refine qF c5 ?_
 refine A.skip ?_
 show aj _ _ _ _ _
 refine A.seq ?_
 refine qDs [(2, hto (lnE ak e.List))] [50] [(52, lf ak e.List), (53, i6 (e.List.length:Int)), (54, i6 0)] ?_
 refine A.block ?_
 refine A.bS 52 rfl fun hb2 => ?_
 obtain ⟨B2, K2, hB2, hK2, hm⟩ := bN hm
 refine A.lpI (l := e.List) (j0 := 0) (B := B2) (K := K2) hm (fun j2 => fun sg => match sg with | () => [(1, .ptr 31001 0), (52, lf ak e.List), (53, i6 (e.List.length:Int)), (54, i6 (j2 : Int))]) (fun j2 => fun sg => match sg with | () => [(31001, .cells 32 (k5 e))]) ?_ ?_ ?_
 ·exact qW
 ·rintro j2 e2 Z2 ⟨⟩ hj2 hx2 hm
  rw [hB2] at hm
  refine qDs [] [] [(55, .bool (decide ((j2 : Int) < (e.List.length:Int))))] ?_
  refine A.seq ?_
  refine qT (ltT hx2) ?_
  refine A.skip ?_
  show aj _ _ _ _ _
  refine A.seq ?_
  refine A.block ?_
  refine qD [(0, hix (ix ak (b8 hx2))), (2, .al 31007)] [55] [(7, .ptr 31007 0)] [] [(31007, .cells 39 (k4 e2))] ?_
  refine A.mid [(1, .ptr 31001 0), (52, lf ak e.List), (53, i6 (e.List.length:Int)), (54, i6 (j2 : Int)), (65, .bool ((decide (e2.Kind < (1:Int))) || (decide ((3:Int) < e2.Kind))))] [(31001, .cells 32 (k5 e))] (fun hk => ?_) ?_
  ·rcases tf (decide (e2.Kind < (1:Int))) with c6 | c6
   ·exact qS [(3, hto (bE c6)), (7, hto (orT (q := decide ((3:Int) < e2.Kind)) c6))] _ _ hk
   exact qS [(3, hto (bE c6)), (7, hto (orF (q := decide ((3:Int) < e2.Kind)) c6))] _ _ hk
  rcases aA hm with ⟨c7,hm⟩|⟨c7,hm⟩
  ·refine qT c7 ?_
   refine qS [] [(2, i6 1)] [] ?_
   cases hm
   exact A.ret qE
  refine qF c7 ?_
  refine A.skip ?_
  show aj _ _ _ _ _
  refine qGs [(0, hto (inc hx2 hb2))] [54, 65] [(54, i6 ((j2 + 1 : Nat) : Int))] ?_
  exact qX () hm
 rintro j2 ⟨⟩ hj2 hl2 hm
 rw [hK2] at hm
 refine qDs [] [] [(55, .bool (decide ((j2 : Int) < (e.List.length:Int))))] ?_
 refine A.seq ?_
 refine qF (ltF hl2) ?_
 refine A.exit ?_
 show aj _ _ _ _ _
 refine A.seq ?_
 refine qDs [(2, hto (lnE ak e.List))] [52, 53, 54, 55] [(68, lf ak e.List), (69, i6 (e.List.length:Int)), (70, i6 0)] ?_
 refine A.block ?_
 refine A.bS 68 rfl fun hb3 => ?_
 obtain ⟨B3, K3, hB3, hK3, hm⟩ := bN hm
 refine A.lpI (l := e.List) (j0 := 0) (B := B3) (K := K3) hm (fun j3 => fun sg => match sg with | () => [(1, .ptr 31001 0), (68, lf ak e.List), (69, i6 (e.List.length:Int)), (70, i6 (j3 : Int))]) (fun j3 => fun sg => match sg with | () => [(31001, .cells 32 (k5 e))]) ?_ ?_ ?_
 ·exact qW
 ·rintro j3 e3 Z3 ⟨⟩ hj3 hx3 hm
  rw [hB3] at hm
  refine qDs [] [] [(71, .bool (decide ((j3 : Int) < (e.List.length:Int))))] ?_
  refine A.seq ?_
  refine qT (ltT hx3) ?_
  refine A.skip ?_
  show aj _ _ _ _ _
  refine A.seq ?_
  refine A.block ?_
  refine qD [(0, hix (ix ak (b8 hx3))), (2, .al 31009)] [71] [(9, .ptr 31009 0)] [] [(31009, .cells 39 (k4 e3))] ?_
  refine qD [] [9] [(82, .bool (!((decide (e3.To = e3.aR)) == (decide (e3.Kind = (3:Int))))))] [31009] [] ?_
  rcases aA hm with ⟨c8,hm⟩|⟨c8,hm⟩
  ·refine qT c8 ?_
   refine qS [] [(2, i6 8)] [] ?_
   cases hm
   exact A.ret qE
  refine qF c8 ?_
  refine A.skip ?_
  show aj _ _ _ _ _
  refine qGs [(0, hto (inc hx3 hb3))] [70, 82] [(70, i6 ((j3 + 1 : Nat) : Int))] ?_
  exact qX () hm
 rintro j3 ⟨⟩ hj3 hl3 hm
 rw [hK3] at hm
 refine qDs [] [] [(71, .bool (decide ((j3 : Int) < (e.List.length:Int))))] ?_
 refine A.seq ?_
 refine qF (ltF hl3) ?_
 refine A.exit ?_
 show aj _ _ _ _ _
 refine A.seq ?_
 refine qDs [] [68, 69, 70, 71] [(10, i6 1)] ?_
 refine A.block ?_
 refine A.bC 1 1 rfl rfl rfl fun hb4 => ?_
 obtain ⟨B4, K4, hB4, hK4, hm⟩ := bN hm
 refine A.lpI (l := e.List) (j0 := 1) (B := B4) (K := K4) hm (fun j4 => fun sg => match sg with | () => [(1, .ptr 31001 0), (10, i6 (j4 : Int))]) (fun j4 => fun sg => match sg with | () => [(31001, .cells 32 (k5 e))]) ?_ ?_ ?_
 ·exact qW
 ·rintro j4 e4 Z4 ⟨⟩ hj4 hx4 hm
  rw [hB4] at hm
  refine A.seq ?_
  refine qDs [(3, hto (lnE ak e.List))] [] [(88, .bool (decide ((j4 : Int) < (e.List.length:Int))))] ?_
  refine qT (ltT hx4) ?_
  refine A.skip ?_
  show aj _ _ _ _ _
  refine A.seq ?_
  refine A.block ?_
  obtain ⟨e_1, h4, hm⟩ := af hm
  refine qDs [(4, hix (ix ak h4)), (10, hix (ix ak (b8 hx4)))] [88] [(104, .bool (decide (e4.Bit ≤ e_1.Bit)))] ?_
  rcases aA hm with ⟨c9,hm⟩|⟨c9,hm⟩
  ·refine qT c9 ?_
   refine qS [] [(2, i6 25)] [] ?_
   cases hm
   exact A.ret qE
  refine qF c9 ?_
  refine A.skip ?_
  show aj _ _ _ _ _
  refine qGs [(1, hto (inc hx4 hb4))] [10, 104] [(10, i6 ((j4 + 1 : Nat) : Int))] ?_
  exact qX () hm
 rintro j4 ⟨⟩ hj4 hl4 hm
 rw [hK4] at hm
 refine A.seq ?_
 refine qDs [(3, hto (lnE ak e.List))] [] [(88, .bool (decide ((j4 : Int) < (e.List.length:Int))))] ?_
 refine qF (ltF hl4) ?_
 refine A.exit ?_
 show aj _ _ _ _ _
 refine A.seq ?_
 refine qDs [(2, hto (lnE ak e.List))] [10, 88] [(106, lf ak e.List), (107, i6 (e.List.length:Int)), (108, i6 0)] ?_
 refine A.block ?_
 refine A.bS 106 rfl fun hb5 => ?_
 obtain ⟨B5, K5, hB5, hK5, hm⟩ := bN hm
 refine A.lpI (l := e.List) (j0 := 0) (B := B5) (K := K5) hm (fun j5 => fun sg => match sg with | () => [(1, .ptr 31001 0), (106, lf ak e.List), (107, i6 (e.List.length:Int)), (108, i6 (j5 : Int))]) (fun j5 => fun sg => match sg with | () => [(31001, .cells 32 (k5 e))]) ?_ ?_ ?_
 ·exact qW
 ·rintro j5 e5 Z5 ⟨⟩ hj5 hx5 hm
  rw [hB5] at hm
  refine qDs [] [] [(109, .bool (decide ((j5 : Int) < (e.List.length:Int))))] ?_
  refine A.seq ?_
  refine qT (ltT hx5) ?_
  refine A.skip ?_
  show aj _ _ _ _ _
  refine A.seq ?_
  refine A.block ?_
  refine qD [(1, hix (ix ak (b8 hx5))), (3, .al 31012)] [109] [(12, .ptr 31012 0), (11, i6 (j5 : Int))] [] [(31012, .cells 39 (k4 e5))] ?_
  obtain ⟨l_1, h5, hm⟩ := af hm
  refine qDs [(3, hsl (sl ak h5)), (4, hto (lnE ak l_1))] [11] [(116, lf ak l_1), (117, i6 (l_1.length:Int)), (118, i6 0)] ?_
  refine A.block ?_
  refine A.bS 116 rfl fun hb6 => ?_
  obtain ⟨B6, K6, hB6, hK6, hm⟩ := bN hm
  refine A.lpI (l := l_1) (j0 := 0) (B := B6) (K := K6) hm (fun j6 => fun sg => match sg with | () => [(1, .ptr 31001 0), (12, .ptr 31012 0), (106, lf ak e.List), (107, i6 (e.List.length:Int)), (108, i6 (j5 : Int)), (116, lf ak l_1), (117, i6 (l_1.length:Int)), (118, i6 (j6 : Int))]) (fun j6 => fun sg => match sg with | () => [(31001, .cells 32 (k5 e)), (31012, .cells 39 (k4 e5))]) ?_ ?_ ?_
  ·exact qW
  ·rintro j6 e6 Z6 ⟨⟩ hj6 hx6 hm
   rw [hB6] at hm
   refine qDs [] [] [(119, .bool (decide ((j6 : Int) < (l_1.length:Int))))] ?_
   refine A.seq ?_
   refine qT (ltT hx6) ?_
   refine A.skip ?_
   show aj _ _ _ _ _
   refine A.seq ?_
   refine A.block ?_
   refine qD [(0, hix (ix ak (b8 hx6))), (2, .al 31014)] [119] [(14, .ptr 31014 0)] [] [(31014, .cells 39 (k4 e6))] ?_
   refine A.mid [(1, .ptr 31001 0), (12, .ptr 31012 0), (106, lf ak e.List), (107, i6 (e.List.length:Int)), (108, i6 (j5 : Int)), (116, lf ak l_1), (117, i6 (l_1.length:Int)), (118, i6 (j6 : Int)), (140, .bool ((decide (e5.aR = e6.aR)) && ((decide (e5.Kind = e6.Kind)) && (decide (e5.To = e6.To)))))] [(31001, .cells 32 (k5 e)), (31012, .cells 39 (k4 e5))] (fun hk => ?_) ?_
   ·rcases tf (decide (e5.aR = e6.aR)) with c10 | c10
    ·rcases tf (decide (e5.Kind = e6.Kind)) with c11 | c11
     ·exact qS [(5, hto (bE c10)), (12, hto (bE c11)), (18, hto ((mM (q := decide (e5.To = e6.To)) c11).trans (mM (q := ((decide (e5.Kind = e6.Kind)) && (decide (e5.To = e6.To)))) c10)))] _ _ hk
     exact qS [(5, hto (bE c10)), (12, hto (bE c11)), (18, hto ((oD (q := decide (e5.To = e6.To)) c11).trans (mM (q := ((decide (e5.Kind = e6.Kind)) && (decide (e5.To = e6.To)))) c10)))] _ _ hk
    exact qS [(5, hto (bE c10)), (18, hto (oD (q := ((decide (e5.Kind = e6.Kind)) && (decide (e5.To = e6.To)))) c10))] _ _ hk
   rcases aA hm with ⟨c12,hm⟩|⟨c12,hm⟩
   ·refine qT c12 ?_
    refine qS [] [(2, i6 5)] [] ?_
    cases hm
    exact A.ret qE
   refine qF c12 ?_
   refine A.skip ?_
   show aj _ _ _ _ _
   refine qGs [(0, hto (inc hx6 hb6))] [118, 140] [(118, i6 ((j6 + 1 : Nat) : Int))] ?_
   exact qX () hm
  rintro j6 ⟨⟩ hj6 hl6 hm
  rw [hK6] at hm
  refine qDs [] [] [(119, .bool (decide ((j6 : Int) < (l_1.length:Int))))] ?_
  refine A.seq ?_
  refine qF (ltF hl6) ?_
  refine A.exit ?_
  show aj _ _ _ _ _
  refine qG [(0, hto (inc hx5 hb5))] [12, 108, 116, 117, 118, 119] [(108, i6 ((j5 + 1 : Nat) : Int))] [31012] [] ?_
  exact qX () hm
 rintro j5 ⟨⟩ hj5 hl5 hm
 rw [hK5] at hm
 refine qDs [] [] [(109, .bool (decide ((j5 : Int) < (e.List.length:Int))))] ?_
 refine A.seq ?_
 refine qF (ltF hl5) ?_
 refine A.exit ?_
 show aj _ _ _ _ _
 refine qS [] [(2, i6 0)] [] ?_
 cases hm
 exact A.ret qE
theorem yF {e : aM} {ra1 : Int} {r : Int} (hm : nh e ra1 = some r) : RO Try.prog 13 [] [.agg (k5 e), i6 ra1] (.int .u64 r) := by
 refine bO Try.func13 rfl rfl ?_
 unfold nh at hm
 refine qS [(0, .al 13002)] [(1, i6 ra1), (2, .ptr 13002 0)] [(13002, .cells 32 (k5 e))] ?_
 refine qDs [] [] [(5, .int .u64 (0:Int))] ?_
 obtain ⟨J1, hJ1, hm⟩ := cD hm
 refine A.J (J := J1) (r := r) (fun er => [(5, .int .u64 er)]) (fun er => []) ?_ ?_
 ·obtain ⟨ay, h1, hm⟩ := af hm
  refine qDs [(1, hro (oK h1) an6)] [] [(10, .bool (decide (ay = (0:Int))))] ?_
  rcases aA hm with ⟨c1,hm⟩|⟨c1,hm⟩
  ·refine qT c1 ?_
   refine qD [(2, hto (lnE ak e.List))] [2, 10] [(12, lf ak e.List), (13, i6 (e.List.length:Int)), (14, i6 0)] [13002] [] ?_
   refine A.block ?_
   refine A.bS 12 rfl fun hb1 => ?_
   obtain ⟨B1, K1, hB1, hK1, hm⟩ := bN hm
   refine A.lpI (l := e.List) (j0 := 0) (B := B1) (K := K1) hm (fun j1 => fun fQ => [(1, i6 ra1), (5, .int .u64 fQ), (12, lf ak e.List), (13, i6 (e.List.length:Int)), (14, i6 (j1 : Int))]) (fun j1 => fun fQ => []) ?_ ?_ ?_
   ·exact qW
   ·rintro j1 e1 Z1 fQ hj1 hx1 hm
    rw [hB1] at hm
    refine qDs [] [] [(15, .bool (decide ((j1 : Int) < (e.List.length:Int))))] ?_
    refine A.seq ?_
    refine qT (ltT hx1) ?_
    refine A.skip ?_
    show aj _ _ _ _ _
    obtain ⟨J2, hJ2, hm⟩ := cD hm
    refine A.J (J := J2) (r := r) (fun vM => [(1, i6 ra1), (5, .int .u64 vM), (12, lf ak e.List), (13, i6 (e.List.length:Int)), (14, i6 (j1 : Int))]) (fun vM => []) ?_ ?_
    ·refine A.block ?_
     refine qD [(0, hix (ix ak (b8 hx1))), (2, .al 13007)] [15] [(7, .ptr 13007 0)] [] [(13007, .cells 39 (k4 e1))] ?_
     refine qDs [] [] [(21, .bool (decide (e1.aR = ra1)))] ?_
     rcases aA hm with ⟨c2,hm⟩|⟨c2,hm⟩
     ·refine qT c2 ?_
      obtain ⟨h2, hm⟩ := eB hm
      refine qG [(4, .sh (IntKind.wrap .u64 e1.Bit) (of_decide_eq_true h2))] [5, 7, 21] [(5, .int .u64 (bH .or .u64 fQ (IntKind.wrap .u64 ((1:Int) * 2 ^ min (IntKind.wrap .u64 e1.Bit).toNat 64))))] [13007] [] ?_
      exact qX (bH .or .u64 fQ (IntKind.wrap .u64 ((1:Int) * 2 ^ min (IntKind.wrap .u64 e1.Bit).toNat 64))) hm
     refine qF c2 ?_
     refine A.skip ?_
     exact qX fQ hm
    rintro vM hm
    rw [hJ2] at hm
    refine qGs [(0, hto (inc hx1 hb1))] [14] [(14, i6 ((j1 + 1 : Nat) : Int))] ?_
    exact qX vM hm
   rintro j1 fQ hj1 hl1 hm
   rw [hK1] at hm
   refine qDs [] [] [(15, .bool (decide ((j1 : Int) < (e.List.length:Int))))] ?_
   refine A.seq ?_
   refine qF (ltF hl1) ?_
   refine A.exit ?_
   exact qX fQ hm
  refine qF c1 ?_
  refine A.skip ?_
  exact qX (0:Int) hm
 rintro er hm
 rw [hJ1] at hm
 refine qS [] [(4, .int .u64 er)] [] ?_
 cases hm
 exact A.ret qE
theorem rU {e : aM} {ra1 : Int} {kind : Int} {o5 : Int} {r : Int × Bool} (hm : kM e ra1 kind o5 = some r) : RO Try.prog 14 [] [.agg (k5 e), i6 ra1, i6 kind, i6 o5] (.tup [i6 r.1, .bool r.2]) := by
 refine bO Try.func14 rfl rfl ?_
 unfold kM at hm
 refine qS [(0, .al 14004)] [(1, i6 ra1), (2, i6 kind), (3, i6 o5), (4, .ptr 14004 0)] [(14004, .cells 32 (k5 e))] ?_
 obtain ⟨J1, hJ1, hm⟩ := cD hm
 refine A.J (J := J1) (r := r) (fun sg => match sg with | () => []) (fun sg => match sg with | () => []) ?_ ?_
 ·obtain ⟨ay, h1, hm⟩ := af hm
  refine qDs [(1, hro (oK h1) an6)] [] [(14, .bool (decide (ay = (0:Int))))] ?_
  rcases aA hm with ⟨c1,hm⟩|⟨c1,hm⟩
  ·refine qT c1 ?_
   refine qD [(2, hto (lnE ak e.List))] [4, 14] [(16, lf ak e.List), (17, i6 (e.List.length:Int)), (18, i6 0)] [14004] [] ?_
   refine A.block ?_
   refine A.bS 16 rfl fun hb1 => ?_
   obtain ⟨B1, K1, hB1, hK1, hm⟩ := bN hm
   refine A.lpI (l := e.List) (j0 := 0) (B := B1) (K := K1) hm (fun j1 => fun sg => match sg with | () => [(1, i6 ra1), (2, i6 kind), (3, i6 o5), (16, lf ak e.List), (17, i6 (e.List.length:Int)), (18, i6 (j1 : Int))]) (fun j1 => fun sg => match sg with | () => []) ?_ ?_ ?_
   ·exact qW
   ·rintro j1 e1 Z1 ⟨⟩ hj1 hx1 hm
    rw [hB1] at hm
    refine qDs [] [] [(19, .bool (decide ((j1 : Int) < (e.List.length:Int))))] ?_
    refine A.seq ?_
    refine qT (ltT hx1) ?_
    refine A.skip ?_
    show aj _ _ _ _ _
    refine A.seq ?_
    refine A.block ?_
    refine qD [(0, hix (ix ak (b8 hx1))), (2, .al 14011)] [19] [(11, .ptr 14011 0)] [] [(14011, .cells 39 (k4 e1))] ?_
    refine A.mid [(1, i6 ra1), (2, i6 kind), (3, i6 o5), (16, lf ak e.List), (17, i6 (e.List.length:Int)), (18, i6 (j1 : Int)), (11, .ptr 14011 0), (37, .bool ((decide (e1.aR = ra1)) && ((decide (e1.Kind = kind)) && (decide (e1.To = o5)))))] [(14011, .cells 39 (k4 e1))] (fun hk => ?_) ?_
    ·rcases tf (decide (e1.aR = ra1)) with c2 | c2
     ·rcases tf (decide (e1.Kind = kind)) with c3 | c3
      ·exact qS [(4, hto (bE c2)), (10, hto (bE c3)), (15, hto ((mM (q := decide (e1.To = o5)) c3).trans (mM (q := ((decide (e1.Kind = kind)) && (decide (e1.To = o5)))) c2)))] _ _ hk
      exact qS [(4, hto (bE c2)), (10, hto (bE c3)), (15, hto ((oD (q := decide (e1.To = o5)) c3).trans (mM (q := ((decide (e1.Kind = kind)) && (decide (e1.To = o5)))) c2)))] _ _ hk
     exact qS [(4, hto (bE c2)), (15, hto (oD (q := ((decide (e1.Kind = kind)) && (decide (e1.To = o5)))) c2))] _ _ hk
    rcases aA hm with ⟨c4,hm⟩|⟨c4,hm⟩
    ·refine qT c4 ?_
     refine qS [] [(8, i6 e1.Bit), (9, .bool true)] [] ?_
     cases hm
     exact A.ret qE
    refine qF c4 ?_
    refine A.skip ?_
    show aj _ _ _ _ _
    refine qG [(0, hto (inc hx1 hb1))] [18, 11, 37] [(18, i6 ((j1 + 1 : Nat) : Int))] [14011] [] ?_
    exact qX () hm
   rintro j1 ⟨⟩ hj1 hl1 hm
   rw [hK1] at hm
   refine qDs [] [] [(19, .bool (decide ((j1 : Int) < (e.List.length:Int))))] ?_
   refine A.seq ?_
   refine qF (ltF hl1) ?_
   refine A.exit ?_
   exact qX () hm
  refine qF c1 ?_
  refine A.skip ?_
  exact qX () hm
 rintro ⟨⟩ hm
 rw [hJ1] at hm
 refine qS [] [(8, i6 0), (9, .bool false)] [] ?_
 cases hm
 exact A.ret qE
theorem rV {t : aa} {n : Int} {r : aM × Int} (hm : kN t n = some r) : RO Try.prog 19 [] [.agg (k2 t), i6 n] (.tup [.agg (k5 r.1), i6 r.2]) := by
 refine bO Try.func19 rfl rfl ?_
 unfold kN at hm
 refine qS [(0, .al 19002), (1, .al 19004)] [(1, i6 n), (2, .ptr 19002 0), (4, .ptr 19004 0)] [(19002, .cells 28 (k2 t)), (19004, .cells 32 [i6 0, .aW])] ?_
 refine A.seq ?_
 obtain ⟨ay, h1, hm⟩ := af hm
 refine qDs [(1, hro (ru h1) an7)] [] [(13, .bool (!decide (ay = (0:Int))))] ?_
 rcases aA hm with ⟨c1,hm⟩|⟨c1,hm⟩
 ·refine qT c1 ?_
  refine qD [] [1, 2, 13] [(5, i6 1)] [19002] [] ?_
  cases hm
  exact A.ret qE
 refine qF c1 ?_
 refine A.skip ?_
 show aj _ _ _ _ _
 refine A.seq ?_
 obtain ⟨aV, h2, hm⟩ := af hm
 refine qDs [(1, hro (qb h2) an8)] [13] [(17, .bool (!aV))] ?_
 rcases aA hm with ⟨c2,hm⟩|⟨c2,hm⟩
 ·refine qT c2 ?_
  refine qD [] [1, 2, 17] [(5, i6 2)] [19002] [] ?_
  cases hm
  exact A.ret qE
 refine qF c2 ?_
 refine A.skip ?_
 show aj _ _ _ _ _
 refine qD [(2, .al 19006)] [17] [(6, .ptr 19006 0)] [] [(19006, .cells 32 [i6 n, .aW])] ?_
 refine A.seq ?_
 refine qDs [(2, hto (lnE aL t.aC))] [] [(22, lf aL t.aC), (23, i6 (t.aC.length:Int)), (24, i6 0)] ?_
 refine A.block ?_
 refine A.bS 22 rfl fun hb1 => ?_
 obtain ⟨B1, K1, hB1, hK1, hm⟩ := bN hm
 refine A.lpI (l := t.aC) (j0 := 0) (B := B1) (K := K1) hm (fun j1 => fun m_1 => [(1, i6 n), (2, .ptr 19002 0), (4, .ptr 19004 0), (6, .ptr 19006 0), (22, lf aL t.aC), (23, i6 (t.aC.length:Int)), (24, i6 (j1 : Int))]) (fun j1 => fun m_1 => [(19002, .cells 28 (k2 t)), (19004, .cells 32 [i6 0, .aW]), (19006, .cells 32 [i6 n, .own 701900601]), (701900601, .slice 39 4 (ml ak m_1) 0 false)]) ?_ ?_ ?_
 ·exact bz.go [.ac 19006 701900601 39 4 1] [] (by kernel_rfl)
 ·rintro j1 e1 Z1 m_1 hj1 hx1 hm
  rw [hB1] at hm
  refine qDs [] [] [(25, .bool (decide ((j1 : Int) < (t.aC.length:Int))))] ?_
  refine A.seq ?_
  refine qT (ltT hx1) ?_
  refine A.skip ?_
  show aj _ _ _ _ _
  refine A.seq ?_
  refine A.block ?_
  refine qD [(0, hix (ix aL (b8 hx1))), (2, .al 19008)] [25] [(8, .ptr 19008 0)] [] [(19008, .cells 50 (k0 e1))] ?_
  obtain ⟨l_1, h3, hm⟩ := af hm
  refine qD [(4, hto (lnE ak m_1)), (11, hap 19539 (ap ak (bytes := 32) (by decide) h3))] [] [] [19006, 701900601] [(19006, .cells 32 [i6 n, .own 19539]), (19539, .slice 39 4 (ml ak l_1) 0 false)] ?_
  obtain ⟨bu, h4, hm⟩ := af hm
  refine qDs [(3, hro (sR h4) ck34), (4, hto (lnE bx bu))] [] [(44, lf bx bu), (45, i6 (bu.length:Int)), (46, i6 0)] ?_
  refine A.block ?_
  refine A.bS 44 rfl fun hb2 => ?_
  obtain ⟨B2, K2, hB2, hK2, hm⟩ := bN hm
  refine A.lpI (l := bu) (j0 := 0) (B := B2) (K := K2) hm (fun j2 => fun m_2 => [(1, i6 n), (2, .ptr 19002 0), (4, .ptr 19004 0), (6, .ptr 19006 0), (8, .ptr 19008 0), (22, lf aL t.aC), (23, i6 (t.aC.length:Int)), (24, i6 (j1 : Int)), (44, lf bx bu), (45, i6 (bu.length:Int)), (46, i6 (j2 : Int))]) (fun j2 => fun m_2 => [(19002, .cells 28 (k2 t)), (19004, .cells 32 [i6 0, .aW]), (19006, .cells 32 [i6 n, .own 701900601]), (19008, .cells 50 (k0 e1)), (701900601, .slice 39 4 (ml ak m_2) 0 false)]) ?_ ?_ ?_
  ·exact bz.go [.sw 19539 701900601] [] (by kernel_rfl)
  ·rintro j2 e2 Z2 m_2 hj2 hx2 hm
   rw [hB2] at hm
   refine qDs [] [] [(47, .bool (decide ((j2 : Int) < (bu.length:Int))))] ?_
   refine A.seq ?_
   refine qT (ltT hx2) ?_
   refine A.skip ?_
   show aj _ _ _ _ _
   refine A.seq ?_
   refine A.block ?_
   refine qDs [(0, hix (ix bx (b8 hx2)))] [47] [(10, i6 e2)] ?_
   obtain ⟨l_2, h5, hm⟩ := af hm
   refine qG [(4, hto (lnE ak m_2)), (10, hap 19560 (ap ak (bytes := 32) (by decide) h5))] [10] [] [19006, 701900601] [(19006, .cells 32 [i6 n, .own 19560]), (19560, .slice 39 4 (ml ak l_2) 0 false)] ?_
   show aj _ _ _ _ _
   refine qGs [(0, hto (inc hx2 hb2))] [46] [(46, i6 ((j2 + 1 : Nat) : Int))] ?_
   exact Exists.intro l_2 (And.intro hm (bz.go [.sw 19560 701900601] [] (by kernel_rfl)))
  rintro j2 m_2 hj2 hl2 hm
  rw [hK2] at hm
  refine qDs [] [] [(47, .bool (decide ((j2 : Int) < (bu.length:Int))))] ?_
  refine A.seq ?_
  refine qF (ltF hl2) ?_
  refine A.exit ?_
  show aj _ _ _ _ _
  refine qG [(0, hto (inc hx1 hb1))] [8, 24, 44, 45, 46, 47] [(24, i6 ((j1 + 1 : Nat) : Int))] [19008] [] ?_
  exact qX m_2 hm
 rintro j1 m_1 hj1 hl1 hm
 rw [hK1] at hm
 refine qDs [] [] [(25, .bool (decide ((j1 : Int) < (t.aC.length:Int))))] ?_
 refine A.seq ?_
 refine qF (ltF hl1) ?_
 refine A.exit ?_
 show aj _ _ _ _ _
 refine A.seq ?_
 refine qD [(2, hto (lnE ak m_1))] [1, 2, 22, 23, 24, 25] [(68, .bool (decide (n < (m_1.length:Int))))] [19002] [] ?_
 rcases aA hm with ⟨c3,hm⟩|⟨c3,hm⟩
 ·refine qT c3 ?_
  refine qD [] [6, 68] [(5, i6 3)] [19006, 701900601] [] ?_
  cases hm
  exact A.ret qE
 refine qF c3 ?_
 refine A.skip ?_
 show aj _ _ _ _ _
 refine qD [] [6, 68] [(5, i6 0)] [19004, 19006] [(19004, .cells 32 [i6 n, .own 701900601])] ?_
 refine A.ret ?_
 obtain rfl := some_inj hm
 exact A.fin W0 [.fz [701900601]] rfl (by kernel_rfl)
end Go.Proofs.Ytdjeacigeegklaa
