/- The jt of dK of the program. No condition but bR bw stand in each. -/
import Derived.Test.YtmfehenfoepkfaaDA
import Derived.Test.YtmfehenfoepkfaaV2
import Derived.Test.YtmfehenfoepkfaaVW
namespace Go.Proofs.Ytmfehenfoepkfaa
open Go
set_option maxRecDepth 100000
set_option linter.all false
theorem qy {n : Int} {r : Bool} (hm : ja n = some r) : RO Try.prog 65 [] [i6 n] (.bool r) := by
 refine aZ Try.func65 rfl rfl ?_
 unfold ja at hm
 refine qS [] [(0, i6 n)] [] ?_
 refine A.mid [(2, .bool ((decide (n = (8:Int))) || ((decide (n = (16:Int))) || ((decide (n = (32:Int))) || (decide (n = (64:Int)))))))] [] (fun hk => ?_) ?_
 ·rcases tf (decide (n = (8:Int))) with c1 | c1
  ·exact qS [(2, hto (bE c1)), (14, hto (orT (q := ((decide (n = (16:Int))) || ((decide (n = (32:Int))) || (decide (n = (64:Int)))))) c1))] _ _ hk
  rcases tf (decide (n = (16:Int))) with c2 | c2
  ·exact qS [(2, hto (bE c1)), (6, hto (bE c2)), (14, hto ((orT (q := ((decide (n = (32:Int))) || (decide (n = (64:Int))))) c2).trans (orF (q := ((decide (n = (16:Int))) || ((decide (n = (32:Int))) || (decide (n = (64:Int)))))) c1)))] _ _ hk
  rcases tf (decide (n = (32:Int))) with c3 | c3
  ·exact qS [(2, hto (bE c1)), (6, hto (bE c2)), (10, hto (bE c3)), (14, hto (((orT (q := decide (n = (64:Int))) c3).trans (orF (q := ((decide (n = (32:Int))) || (decide (n = (64:Int))))) c2)).trans (orF (q := ((decide (n = (16:Int))) || ((decide (n = (32:Int))) || (decide (n = (64:Int)))))) c1)))] _ _ hk
  exact qS [(2, hto (bE c1)), (6, hto (bE c2)), (10, hto (bE c3)), (14, hto (((orF (q := decide (n = (64:Int))) c3).trans (orF (q := ((decide (n = (32:Int))) || (decide (n = (64:Int))))) c2)).trans (orF (q := ((decide (n = (16:Int))) || ((decide (n = (32:Int))) || (decide (n = (64:Int)))))) c1)))] _ _ hk
 cases hm
 exact A.ret qE
theorem fF {n : Int} {r : Bool} (hm : fq n = some r) : RO Try.prog 49 [] [i6 n] (.bool r) := by
 refine aZ Try.func49 rfl rfl ?_
 unfold fq at hm
 refine qS [] [(0, i6 n)] [] ?_
 refine A.mid [(2, .bool ((decide ((1:Int) ≤ n)) && (decide (n ≤ (99:Int)))))] [] (fun hk => ?_) ?_
 ·rcases tf (decide ((1:Int) ≤ n)) with c1 | c1
  ·exact qS [(2, hto (bE c1)), (6, hto (lG (q := decide (n ≤ (99:Int))) c1))] _ _ hk
  exact qS [(2, hto (bE c1)), (6, hto (mI (q := decide (n ≤ (99:Int))) c1))] _ _ hk
 cases hm
 exact A.ret qE
theorem fK {e : aB} {r : Int} (hm : eE e = some r) : RO Try.prog 32 [] [.agg (k5 e)] (i6 r) := by
 refine aZ Try.func32 rfl rfl ?_
 unfold eE at hm
 refine qS [(0, .al 32001)] [(1, .ptr 32001 0)] [(32001, .cells 36 (k5 e))] ?_
 obtain ⟨ak, h1, hm⟩ := aa hm
 refine qDs [(2, hro (qy h1) alq)] [] [(3, .bool ak)] ?_
 refine A.seq ?_
 refine qDs [(2, hto (lnE af e.List))] [] [(19, lf af e.List), (20, i6 (e.List.length:Int)), (21, i6 0)] ?_
 refine A.block ?_
 refine A.bS 19 rfl fun hb1 => ?_
 obtain ⟨B1, K1, hB1, hK1, hm⟩ := aP hm
 refine A.lpI (l := e.List) (j0 := 0) (B := B1) (K := K1) hm (fun j1 => fun lM => [(1, .ptr 32001 0), (3, .bool lM), (19, lf af e.List), (20, i6 (e.List.length:Int)), (21, i6 (j1 : Int))]) (fun j1 => fun lM => [(32001, .cells 36 (k5 e))]) ?_ ?_ ?_
 ·exact qW
 ·rintro j1 e1 Z1 lM hj1 hx1 hm
  rw [hB1] at hm
  refine qDs [] [] [(22, .bool (decide ((j1 : Int) < (e.List.length:Int))))] ?_
  refine A.seq ?_
  refine qT (ltT hx1) ?_
  refine A.skip ?_
  show ah _ _ _ _ _
  refine A.seq ?_
  refine A.block ?_
  refine qD [(0, hix (ix af (aY hx1))), (2, .al 32005)] [22] [(5, .ptr 32005 0)] [] [(32005, .cells 64 (k3 e1))] ?_
  rcases aq hm with ⟨c1,hm⟩|⟨c1,hm⟩
  ·rcases aq hm with ⟨c2,hm⟩|⟨c2,hm⟩
   ·rcases aq hm with ⟨c3,hm⟩|⟨c3,hm⟩
    ·obtain ⟨aF, h2, hm⟩ := aa hm
     rcases aq hm with ⟨c4,hm⟩|⟨c4,hm⟩
     ·obtain ⟨aI, h3, hm⟩ := aa hm
      refine qG [(1, hto (bE c1)), (6, hto (bE c2)), (13, hto (bE c3)), (16, hro (fF h2) xe), (18, hto (bE c4)), (21, hro (fF h3) xe)] [3, 5] [(3, .bool aI)] [32005] [] ?_
      show ah _ _ _ _ _
      refine qGs [(0, hto (inc hx1 hb1))] [21] [(21, i6 ((j1 + 1 : Nat) : Int))] ?_
      exact qX aI hm
     refine qG [(1, hto (bE c1)), (6, hto (bE c2)), (13, hto (bE c3)), (16, hro (fF h2) xe), (18, hto (bE c4))] [3, 5] [(3, .bool false)] [32005] [] ?_
     show ah _ _ _ _ _
     refine qGs [(0, hto (inc hx1 hb1))] [21] [(21, i6 ((j1 + 1 : Nat) : Int))] ?_
     exact qX false hm
    refine qG [(1, hto (bE c1)), (6, hto (bE c2)), (13, hto (bE c3))] [3, 5] [(3, .bool false)] [32005] [] ?_
    show ah _ _ _ _ _
    refine qGs [(0, hto (inc hx1 hb1))] [21] [(21, i6 ((j1 + 1 : Nat) : Int))] ?_
    exact qX false hm
   refine qG [(1, hto (bE c1)), (6, hto (bE c2))] [3, 5] [(3, .bool false)] [32005] [] ?_
   show ah _ _ _ _ _
   refine qGs [(0, hto (inc hx1 hb1))] [21] [(21, i6 ((j1 + 1 : Nat) : Int))] ?_
   exact qX false hm
  refine qG [(1, hto (bE c1))] [3, 5] [(3, .bool false)] [32005] [] ?_
  show ah _ _ _ _ _
  refine qGs [(0, hto (inc hx1 hb1))] [21] [(21, i6 ((j1 + 1 : Nat) : Int))] ?_
  exact qX false hm
 rintro j1 lM hj1 hl1 hm
 rw [hK1] at hm
 refine qDs [] [] [(22, .bool (decide ((j1 : Int) < (e.List.length:Int))))] ?_
 refine A.seq ?_
 refine qF (ltF hl1) ?_
 refine A.exit ?_
 show ah _ _ _ _ _
 refine A.seq ?_
 refine qDs [] [3, 19, 20, 21, 22] [(50, .bool (!lM))] ?_
 rcases aq hm with ⟨c5,hm⟩|⟨c5,hm⟩
 ·refine qT c5 ?_
  refine qS [] [(2, i6 2)] [] ?_
  cases hm
  exact A.ret qE
 refine qF c5 ?_
 refine A.skip ?_
 show ah _ _ _ _ _
 refine A.seq ?_
 refine qDs [(2, hto (lnE af e.List))] [50] [(52, lf af e.List), (53, i6 (e.List.length:Int)), (54, i6 0)] ?_
 refine A.block ?_
 refine A.bS 52 rfl fun hb2 => ?_
 obtain ⟨B2, K2, hB2, hK2, hm⟩ := aP hm
 refine A.lpI (l := e.List) (j0 := 0) (B := B2) (K := K2) hm (fun j2 => fun sg => match sg with | () => [(1, .ptr 32001 0), (52, lf af e.List), (53, i6 (e.List.length:Int)), (54, i6 (j2 : Int))]) (fun j2 => fun sg => match sg with | () => [(32001, .cells 36 (k5 e))]) ?_ ?_ ?_
 ·exact qW
 ·rintro j2 e2 Z2 ⟨⟩ hj2 hx2 hm
  rw [hB2] at hm
  refine qDs [] [] [(55, .bool (decide ((j2 : Int) < (e.List.length:Int))))] ?_
  refine A.seq ?_
  refine qT (ltT hx2) ?_
  refine A.skip ?_
  show ah _ _ _ _ _
  refine A.seq ?_
  refine A.block ?_
  refine qD [(0, hix (ix af (aY hx2))), (2, .al 32007)] [55] [(7, .ptr 32007 0)] [] [(32007, .cells 64 (k3 e2))] ?_
  refine A.mid [(1, .ptr 32001 0), (52, lf af e.List), (53, i6 (e.List.length:Int)), (54, i6 (j2 : Int)), (65, .bool ((decide (e2.Kind < (1:Int))) || (decide ((3:Int) < e2.Kind))))] [(32001, .cells 36 (k5 e))] (fun hk => ?_) ?_
  ·rcases tf (decide (e2.Kind < (1:Int))) with c6 | c6
   ·exact qS [(3, hto (bE c6)), (7, hto (orT (q := decide ((3:Int) < e2.Kind)) c6))] _ _ hk
   exact qS [(3, hto (bE c6)), (7, hto (orF (q := decide ((3:Int) < e2.Kind)) c6))] _ _ hk
  rcases aq hm with ⟨c7,hm⟩|⟨c7,hm⟩
  ·refine qT c7 ?_
   refine qS [] [(2, i6 1)] [] ?_
   cases hm
   exact A.ret qE
  refine qF c7 ?_
  refine A.skip ?_
  show ah _ _ _ _ _
  refine qGs [(0, hto (inc hx2 hb2))] [54, 65] [(54, i6 ((j2 + 1 : Nat) : Int))] ?_
  exact qX () hm
 rintro j2 ⟨⟩ hj2 hl2 hm
 rw [hK2] at hm
 refine qDs [] [] [(55, .bool (decide ((j2 : Int) < (e.List.length:Int))))] ?_
 refine A.seq ?_
 refine qF (ltF hl2) ?_
 refine A.exit ?_
 show ah _ _ _ _ _
 refine A.seq ?_
 refine qDs [(2, hto (lnE af e.List))] [52, 53, 54, 55] [(68, lf af e.List), (69, i6 (e.List.length:Int)), (70, i6 0)] ?_
 refine A.block ?_
 refine A.bS 68 rfl fun hb3 => ?_
 obtain ⟨B3, K3, hB3, hK3, hm⟩ := aP hm
 refine A.lpI (l := e.List) (j0 := 0) (B := B3) (K := K3) hm (fun j3 => fun sg => match sg with | () => [(1, .ptr 32001 0), (68, lf af e.List), (69, i6 (e.List.length:Int)), (70, i6 (j3 : Int))]) (fun j3 => fun sg => match sg with | () => [(32001, .cells 36 (k5 e))]) ?_ ?_ ?_
 ·exact qW
 ·rintro j3 e3 Z3 ⟨⟩ hj3 hx3 hm
  rw [hB3] at hm
  refine qDs [] [] [(71, .bool (decide ((j3 : Int) < (e.List.length:Int))))] ?_
  refine A.seq ?_
  refine qT (ltT hx3) ?_
  refine A.skip ?_
  show ah _ _ _ _ _
  refine A.seq ?_
  refine A.block ?_
  refine qD [(0, hix (ix af (aY hx3))), (2, .al 32009)] [71] [(9, .ptr 32009 0)] [] [(32009, .cells 64 (k3 e3))] ?_
  refine qD [] [9] [(82, .bool (!((decide (e3.To = e3.aT)) == (decide (e3.Kind = (3:Int))))))] [32009] [] ?_
  rcases aq hm with ⟨c8,hm⟩|⟨c8,hm⟩
  ·refine qT c8 ?_
   refine qS [] [(2, i6 8)] [] ?_
   cases hm
   exact A.ret qE
  refine qF c8 ?_
  refine A.skip ?_
  show ah _ _ _ _ _
  refine qGs [(0, hto (inc hx3 hb3))] [70, 82] [(70, i6 ((j3 + 1 : Nat) : Int))] ?_
  exact qX () hm
 rintro j3 ⟨⟩ hj3 hl3 hm
 rw [hK3] at hm
 refine qDs [] [] [(71, .bool (decide ((j3 : Int) < (e.List.length:Int))))] ?_
 refine A.seq ?_
 refine qF (ltF hl3) ?_
 refine A.exit ?_
 show ah _ _ _ _ _
 refine A.seq ?_
 refine qDs [] [68, 69, 70, 71] [(10, i6 1)] ?_
 refine A.block ?_
 refine A.bC 1 1 rfl rfl rfl fun hb4 => ?_
 obtain ⟨B4, K4, hB4, hK4, hm⟩ := aP hm
 refine A.lpI (l := e.List) (j0 := 1) (B := B4) (K := K4) hm (fun j4 => fun sg => match sg with | () => [(1, .ptr 32001 0), (10, i6 (j4 : Int))]) (fun j4 => fun sg => match sg with | () => [(32001, .cells 36 (k5 e))]) ?_ ?_ ?_
 ·exact qW
 ·rintro j4 e4 Z4 ⟨⟩ hj4 hx4 hm
  rw [hB4] at hm
  refine A.seq ?_
  refine qDs [(3, hto (lnE af e.List))] [] [(88, .bool (decide ((j4 : Int) < (e.List.length:Int))))] ?_
  refine qT (ltT hx4) ?_
  refine A.skip ?_
  show ah _ _ _ _ _
  refine A.seq ?_
  refine A.block ?_
  obtain ⟨e_1, h4, hm⟩ := aa hm
  refine qDs [(4, hix (ix af h4)), (10, hix (ix af (aY hx4)))] [88] [(104, .bool (decide (e4.Bit ≤ e_1.Bit)))] ?_
  rcases aq hm with ⟨c9,hm⟩|⟨c9,hm⟩
  ·refine qT c9 ?_
   refine qS [] [(2, i6 25)] [] ?_
   cases hm
   exact A.ret qE
  refine qF c9 ?_
  refine A.skip ?_
  show ah _ _ _ _ _
  refine qGs [(1, hto (inc hx4 hb4))] [10, 104] [(10, i6 ((j4 + 1 : Nat) : Int))] ?_
  exact qX () hm
 rintro j4 ⟨⟩ hj4 hl4 hm
 rw [hK4] at hm
 refine A.seq ?_
 refine qDs [(3, hto (lnE af e.List))] [] [(88, .bool (decide ((j4 : Int) < (e.List.length:Int))))] ?_
 refine qF (ltF hl4) ?_
 refine A.exit ?_
 show ah _ _ _ _ _
 refine A.seq ?_
 refine qDs [(2, hto (lnE af e.List))] [10, 88] [(106, lf af e.List), (107, i6 (e.List.length:Int)), (108, i6 0)] ?_
 refine A.block ?_
 refine A.bS 106 rfl fun hb5 => ?_
 obtain ⟨B5, K5, hB5, hK5, hm⟩ := aP hm
 refine A.lpI (l := e.List) (j0 := 0) (B := B5) (K := K5) hm (fun j5 => fun sg => match sg with | () => [(1, .ptr 32001 0), (106, lf af e.List), (107, i6 (e.List.length:Int)), (108, i6 (j5 : Int))]) (fun j5 => fun sg => match sg with | () => [(32001, .cells 36 (k5 e))]) ?_ ?_ ?_
 ·exact qW
 ·rintro j5 e5 Z5 ⟨⟩ hj5 hx5 hm
  rw [hB5] at hm
  refine qDs [] [] [(109, .bool (decide ((j5 : Int) < (e.List.length:Int))))] ?_
  refine A.seq ?_
  refine qT (ltT hx5) ?_
  refine A.skip ?_
  show ah _ _ _ _ _
  refine A.seq ?_
  refine A.block ?_
  refine qD [(1, hix (ix af (aY hx5))), (3, .al 32012)] [109] [(12, .ptr 32012 0), (11, i6 (j5 : Int))] [] [(32012, .cells 64 (k3 e5))] ?_
  obtain ⟨l_1, h5, hm⟩ := aa hm
  refine qDs [(3, hsl (sl af h5)), (4, hto (lnE af l_1))] [11] [(116, lf af l_1), (117, i6 (l_1.length:Int)), (118, i6 0)] ?_
  refine A.block ?_
  refine A.bS 116 rfl fun hb6 => ?_
  obtain ⟨B6, K6, hB6, hK6, hm⟩ := aP hm
  refine A.lpI (l := l_1) (j0 := 0) (B := B6) (K := K6) hm (fun j6 => fun sg => match sg with | () => [(1, .ptr 32001 0), (12, .ptr 32012 0), (106, lf af e.List), (107, i6 (e.List.length:Int)), (108, i6 (j5 : Int)), (116, lf af l_1), (117, i6 (l_1.length:Int)), (118, i6 (j6 : Int))]) (fun j6 => fun sg => match sg with | () => [(32001, .cells 36 (k5 e)), (32012, .cells 64 (k3 e5))]) ?_ ?_ ?_
  ·exact qW
  ·rintro j6 e6 Z6 ⟨⟩ hj6 hx6 hm
   rw [hB6] at hm
   refine qDs [] [] [(119, .bool (decide ((j6 : Int) < (l_1.length:Int))))] ?_
   refine A.seq ?_
   refine qT (ltT hx6) ?_
   refine A.skip ?_
   show ah _ _ _ _ _
   refine A.seq ?_
   refine A.block ?_
   refine qD [(0, hix (ix af (aY hx6))), (2, .al 32014)] [119] [(14, .ptr 32014 0)] [] [(32014, .cells 64 (k3 e6))] ?_
   refine A.mid [(1, .ptr 32001 0), (12, .ptr 32012 0), (106, lf af e.List), (107, i6 (e.List.length:Int)), (108, i6 (j5 : Int)), (116, lf af l_1), (117, i6 (l_1.length:Int)), (118, i6 (j6 : Int)), (140, .bool ((decide (e5.aT = e6.aT)) && ((decide (e5.Kind = e6.Kind)) && (decide (e5.To = e6.To)))))] [(32001, .cells 36 (k5 e)), (32012, .cells 64 (k3 e5))] (fun hk => ?_) ?_
   ·rcases tf (decide (e5.aT = e6.aT)) with c10 | c10
    ·rcases tf (decide (e5.Kind = e6.Kind)) with c11 | c11
     ·exact qS [(5, hto (bE c10)), (12, hto (bE c11)), (18, hto ((lG (q := decide (e5.To = e6.To)) c11).trans (lG (q := ((decide (e5.Kind = e6.Kind)) && (decide (e5.To = e6.To)))) c10)))] _ _ hk
     exact qS [(5, hto (bE c10)), (12, hto (bE c11)), (18, hto ((mI (q := decide (e5.To = e6.To)) c11).trans (lG (q := ((decide (e5.Kind = e6.Kind)) && (decide (e5.To = e6.To)))) c10)))] _ _ hk
    exact qS [(5, hto (bE c10)), (18, hto (mI (q := ((decide (e5.Kind = e6.Kind)) && (decide (e5.To = e6.To)))) c10))] _ _ hk
   rcases aq hm with ⟨c12,hm⟩|⟨c12,hm⟩
   ·refine qT c12 ?_
    refine qS [] [(2, i6 5)] [] ?_
    cases hm
    exact A.ret qE
   refine qF c12 ?_
   refine A.skip ?_
   show ah _ _ _ _ _
   refine qGs [(0, hto (inc hx6 hb6))] [118, 140] [(118, i6 ((j6 + 1 : Nat) : Int))] ?_
   exact qX () hm
  rintro j6 ⟨⟩ hj6 hl6 hm
  rw [hK6] at hm
  refine qDs [] [] [(119, .bool (decide ((j6 : Int) < (l_1.length:Int))))] ?_
  refine A.seq ?_
  refine qF (ltF hl6) ?_
  refine A.exit ?_
  show ah _ _ _ _ _
  refine qG [(0, hto (inc hx5 hb5))] [12, 108, 116, 117, 118, 119] [(108, i6 ((j5 + 1 : Nat) : Int))] [32012] [] ?_
  exact qX () hm
 rintro j5 ⟨⟩ hj5 hl5 hm
 rw [hK5] at hm
 refine qDs [] [] [(109, .bool (decide ((j5 : Int) < (e.List.length:Int))))] ?_
 refine A.seq ?_
 refine qF (ltF hl5) ?_
 refine A.exit ?_
 show ah _ _ _ _ _
 refine qS [] [(2, i6 0)] [] ?_
 cases hm
 exact A.ret qE
theorem x7 {e : aB} {t : aj} {r : Int} (hm : mN e t = some r) : RO Try.prog 36 [] [.agg (k5 e), .agg (k2 t)] (i6 r) := by
 refine aZ Try.func36 rfl rfl ?_
 unfold mN at hm
 refine qS [(0, .al 36002), (1, .al 36003)] [(2, .ptr 36002 0), (3, .ptr 36003 0)] [(36002, .cells 36 (k5 e)), (36003, .cells 32 (k2 t))] ?_
 refine A.seq ?_
 obtain ⟨ak, h1, hm⟩ := aa hm
 refine qDs [(1, hro (fK h1) yI)] [] [(5, i6 ak)] ?_
 refine qDs [] [] [(15, .bool (!decide (ak = (0:Int))))] ?_
 rcases aq hm with ⟨c1,hm⟩|⟨c1,hm⟩
 ·refine qT c1 ?_
  refine qS [] [(4, i6 ak)] [] ?_
  cases hm
  exact A.ret qE
 refine qF c1 ?_
 refine A.skip ?_
 show ah _ _ _ _ _
 refine A.seq ?_
 obtain ⟨aF, h2, hm⟩ := aa hm
 refine qDs [(1, hro (gR h2) yJ)] [5, 15] [(19, .bool (!decide (aF = (0:Int))))] ?_
 rcases aq hm with ⟨c2,hm⟩|⟨c2,hm⟩
 ·refine qT c2 ?_
  refine qS [] [(4, i6 1)] [] ?_
  cases hm
  exact A.ret qE
 refine qF c2 ?_
 refine A.skip ?_
 show ah _ _ _ _ _
 refine A.seq ?_
 refine qDs [(2, hto (lnE af e.List))] [19] [(21, lf af e.List), (22, i6 (e.List.length:Int)), (23, i6 0)] ?_
 refine A.block ?_
 refine A.bS 21 rfl fun hb1 => ?_
 obtain ⟨B1, K1, hB1, hK1, hm⟩ := aP hm
 refine A.lpI (l := e.List) (j0 := 0) (B := B1) (K := K1) hm (fun j1 => fun sg => match sg with | () => [(2, .ptr 36002 0), (3, .ptr 36003 0), (21, lf af e.List), (22, i6 (e.List.length:Int)), (23, i6 (j1 : Int))]) (fun j1 => fun sg => match sg with | () => [(36002, .cells 36 (k5 e)), (36003, .cells 32 (k2 t))]) ?_ ?_ ?_
 ·exact qW
 ·rintro j1 e1 Z1 ⟨⟩ hj1 hx1 hm
  rw [hB1] at hm
  refine qDs [] [] [(24, .bool (decide ((j1 : Int) < (e.List.length:Int))))] ?_
  refine A.seq ?_
  refine qT (ltT hx1) ?_
  refine A.skip ?_
  show ah _ _ _ _ _
  refine A.seq ?_
  refine A.block ?_
  refine qD [(0, hix (ix af (aY hx1))), (2, .al 36007)] [24] [(7, .ptr 36007 0)] [] [(36007, .cells 64 (k3 e1))] ?_
  obtain ⟨J1, hJ1, hm⟩ := bN hm
  refine A.J (J := J1) (r := r) (fun v_1 => [(2, .ptr 36002 0), (3, .ptr 36003 0), (21, lf af e.List), (22, i6 (e.List.length:Int)), (23, i6 (j1 : Int)), (38, .bool v_1)]) (fun v_1 => [(36002, .cells 36 (k5 e)), (36003, .cells 32 (k2 t))]) ?_ ?_
  ·obtain ⟨aI, h3, hm⟩ := aa hm
   rcases aq hm with ⟨c3,hm⟩|⟨c3,hm⟩
   ·refine qG [(3, hro (pR h3) ae2), (5, hto (bE c3))] [7] [(38, .bool true)] [36007] [] ?_
    exact qX true hm
   obtain ⟨aU, h4, hm⟩ := aa hm
   refine qG [(3, hro (pR h3) ae2), (5, hto (bE c3)), (9, hro (pR h4) ae2)] [7] [(38, .bool (!aU))] [36007] [] ?_
   exact qX (!aU) hm
  rintro v_1 hm
  rw [hJ1] at hm
  rcases aq hm with ⟨c4,hm⟩|⟨c4,hm⟩
  ·refine qT c4 ?_
   refine qS [] [(4, i6 4)] [] ?_
   cases hm
   exact A.ret qE
  refine qF c4 ?_
  refine A.skip ?_
  show ah _ _ _ _ _
  refine qGs [(0, hto (inc hx1 hb1))] [23, 38] [(23, i6 ((j1 + 1 : Nat) : Int))] ?_
  exact qX () hm
 rintro j1 ⟨⟩ hj1 hl1 hm
 rw [hK1] at hm
 refine qDs [] [] [(24, .bool (decide ((j1 : Int) < (e.List.length:Int))))] ?_
 refine A.seq ?_
 refine qF (ltF hl1) ?_
 refine A.exit ?_
 show ah _ _ _ _ _
 refine A.seq ?_
 refine qD [(2, hto (lnE af e.List))] [2, 21, 22, 23, 24] [(41, lf af e.List), (42, i6 (e.List.length:Int)), (43, i6 0)] [36002] [] ?_
 refine A.block ?_
 refine A.bS 41 rfl fun hb2 => ?_
 obtain ⟨B2, K2, hB2, hK2, hm⟩ := aP hm
 refine A.lpI (l := e.List) (j0 := 0) (B := B2) (K := K2) hm (fun j2 => fun sg => match sg with | () => [(3, .ptr 36003 0), (41, lf af e.List), (42, i6 (e.List.length:Int)), (43, i6 (j2 : Int))]) (fun j2 => fun sg => match sg with | () => [(36003, .cells 32 (k2 t))]) ?_ ?_ ?_
 ·exact qW
 ·rintro j2 e2 Z2 ⟨⟩ hj2 hx2 hm
  rw [hB2] at hm
  refine qDs [] [] [(44, .bool (decide ((j2 : Int) < (e.List.length:Int))))] ?_
  refine A.seq ?_
  refine qT (ltT hx2) ?_
  refine A.skip ?_
  show ah _ _ _ _ _
  refine A.seq ?_
  refine A.block ?_
  refine qD [(0, hix (ix af (aY hx2))), (2, .al 36009)] [44] [(9, .ptr 36009 0)] [] [(36009, .cells 64 (k3 e2))] ?_
  obtain ⟨aX, h5, hm⟩ := aa hm
  refine qDs [(5, hro (x5 h5) ck69)] [] [(11, .bool aX.2)] ?_
  refine A.mid [(3, .ptr 36003 0), (41, lf af e.List), (42, i6 (e.List.length:Int)), (43, i6 (j2 : Int)), (62, .bool ((decide (e2.Kind = (1:Int))) && (!aX.2)))] [(36003, .cells 32 (k2 t))] (fun hk => ?_) ?_
  ·rcases tf (decide (e2.Kind = (1:Int))) with c5 | c5
   ·exact qS [(3, hto (bE c5)), (6, hto (lG (q := !aX.2) c5))] _ _ hk
   exact qS [(3, hto (bE c5)), (6, hto (mI (q := !aX.2) c5))] _ _ hk
  rcases aq hm with ⟨c6,hm⟩|⟨c6,hm⟩
  ·refine qT c6 ?_
   refine qS [] [(4, i6 8)] [] ?_
   cases hm
   exact A.ret qE
  refine qF c6 ?_
  refine A.skip ?_
  show ah _ _ _ _ _
  refine qGs [(0, hto (inc hx2 hb2))] [43, 62] [(43, i6 ((j2 + 1 : Nat) : Int))] ?_
  exact qX () hm
 rintro j2 ⟨⟩ hj2 hl2 hm
 rw [hK2] at hm
 refine qDs [] [] [(44, .bool (decide ((j2 : Int) < (e.List.length:Int))))] ?_
 refine A.seq ?_
 refine qF (ltF hl2) ?_
 refine A.exit ?_
 show ah _ _ _ _ _
 refine qS [] [(4, i6 0)] [] ?_
 cases hm
 exact A.ret qE
theorem pS {e : aB} {ra1 : Int} {r : Int} (hm : l6 e ra1 = some r) : RO Try.prog 39 [] [.agg (k5 e), i6 ra1] (.int .u64 r) := by
 refine aZ Try.func39 rfl rfl ?_
 unfold l6 at hm
 refine qS [(0, .al 39002)] [(1, i6 ra1), (2, .ptr 39002 0)] [(39002, .cells 36 (k5 e))] ?_
 refine qDs [] [] [(5, .int .u64 (0:Int))] ?_
 obtain ⟨J1, hJ1, hm⟩ := bN hm
 refine A.J (J := J1) (r := r) (fun bO => [(5, .int .u64 bO)]) (fun bO => []) ?_ ?_
 ·obtain ⟨ak, h1, hm⟩ := aa hm
  refine qDs [(1, hro (fK h1) yI)] [] [(10, .bool (decide (ak = (0:Int))))] ?_
  rcases aq hm with ⟨c1,hm⟩|⟨c1,hm⟩
  ·refine qT c1 ?_
   refine qD [(2, hto (lnE af e.List))] [2, 10] [(12, lf af e.List), (13, i6 (e.List.length:Int)), (14, i6 0)] [39002] [] ?_
   refine A.block ?_
   refine A.bS 12 rfl fun hb1 => ?_
   obtain ⟨B1, K1, hB1, hK1, hm⟩ := aP hm
   refine A.lpI (l := e.List) (j0 := 0) (B := B1) (K := K1) hm (fun j1 => fun cV => [(1, i6 ra1), (5, .int .u64 cV), (12, lf af e.List), (13, i6 (e.List.length:Int)), (14, i6 (j1 : Int))]) (fun j1 => fun cV => []) ?_ ?_ ?_
   ·exact qW
   ·rintro j1 e1 Z1 cV hj1 hx1 hm
    rw [hB1] at hm
    refine qDs [] [] [(15, .bool (decide ((j1 : Int) < (e.List.length:Int))))] ?_
    refine A.seq ?_
    refine qT (ltT hx1) ?_
    refine A.skip ?_
    show ah _ _ _ _ _
    obtain ⟨J2, hJ2, hm⟩ := bN hm
    refine A.J (J := J2) (r := r) (fun vX => [(1, i6 ra1), (5, .int .u64 vX), (12, lf af e.List), (13, i6 (e.List.length:Int)), (14, i6 (j1 : Int))]) (fun vX => []) ?_ ?_
    ·refine A.block ?_
     refine qD [(0, hix (ix af (aY hx1))), (2, .al 39007)] [15] [(7, .ptr 39007 0)] [] [(39007, .cells 64 (k3 e1))] ?_
     refine qDs [] [] [(21, .bool (decide (e1.aT = ra1)))] ?_
     rcases aq hm with ⟨c2,hm⟩|⟨c2,hm⟩
     ·refine qT c2 ?_
      obtain ⟨h2, hm⟩ := eP hm
      refine qG [(4, .sh (IntKind.wrap .u64 e1.Bit) (of_decide_eq_true h2))] [5, 7, 21] [(5, .int .u64 (cg .or .u64 cV (IntKind.wrap .u64 ((1:Int) * 2 ^ min (IntKind.wrap .u64 e1.Bit).toNat 64))))] [39007] [] ?_
      exact qX (cg .or .u64 cV (IntKind.wrap .u64 ((1:Int) * 2 ^ min (IntKind.wrap .u64 e1.Bit).toNat 64))) hm
     refine qF c2 ?_
     refine A.skip ?_
     exact qX cV hm
    rintro vX hm
    rw [hJ2] at hm
    refine qGs [(0, hto (inc hx1 hb1))] [14] [(14, i6 ((j1 + 1 : Nat) : Int))] ?_
    exact qX vX hm
   rintro j1 cV hj1 hl1 hm
   rw [hK1] at hm
   refine qDs [] [] [(15, .bool (decide ((j1 : Int) < (e.List.length:Int))))] ?_
   refine A.seq ?_
   refine qF (ltF hl1) ?_
   refine A.exit ?_
   exact qX cV hm
  refine qF c1 ?_
  refine A.skip ?_
  exact qX (0:Int) hm
 rintro bO hm
 rw [hJ1] at hm
 refine qS [] [(4, .int .u64 bO)] [] ?_
 cases hm
 exact A.ret qE
theorem mw {e : aB} {ra1 : Int} {kind : Int} {lN : Int} {r : Int × Bool} (hm : iu e ra1 kind lN = some r) : RO Try.prog 38 [] [.agg (k5 e), i6 ra1, i6 kind, i6 lN] (.tup [i6 r.1, .bool r.2]) := by
 refine aZ Try.func38 rfl rfl ?_
 unfold iu at hm
 refine qS [(0, .al 38004)] [(1, i6 ra1), (2, i6 kind), (3, i6 lN), (4, .ptr 38004 0)] [(38004, .cells 36 (k5 e))] ?_
 obtain ⟨J1, hJ1, hm⟩ := bN hm
 refine A.J (J := J1) (r := r) (fun sg => match sg with | () => []) (fun sg => match sg with | () => []) ?_ ?_
 ·obtain ⟨ak, h1, hm⟩ := aa hm
  refine qDs [(1, hro (fK h1) yI)] [] [(14, .bool (decide (ak = (0:Int))))] ?_
  rcases aq hm with ⟨c1,hm⟩|⟨c1,hm⟩
  ·refine qT c1 ?_
   refine qD [(2, hto (lnE af e.List))] [4, 14] [(16, lf af e.List), (17, i6 (e.List.length:Int)), (18, i6 0)] [38004] [] ?_
   refine A.block ?_
   refine A.bS 16 rfl fun hb1 => ?_
   obtain ⟨B1, K1, hB1, hK1, hm⟩ := aP hm
   refine A.lpI (l := e.List) (j0 := 0) (B := B1) (K := K1) hm (fun j1 => fun sg => match sg with | () => [(1, i6 ra1), (2, i6 kind), (3, i6 lN), (16, lf af e.List), (17, i6 (e.List.length:Int)), (18, i6 (j1 : Int))]) (fun j1 => fun sg => match sg with | () => []) ?_ ?_ ?_
   ·exact qW
   ·rintro j1 e1 Z1 ⟨⟩ hj1 hx1 hm
    rw [hB1] at hm
    refine qDs [] [] [(19, .bool (decide ((j1 : Int) < (e.List.length:Int))))] ?_
    refine A.seq ?_
    refine qT (ltT hx1) ?_
    refine A.skip ?_
    show ah _ _ _ _ _
    refine A.seq ?_
    refine A.block ?_
    refine qD [(0, hix (ix af (aY hx1))), (2, .al 38011)] [19] [(11, .ptr 38011 0)] [] [(38011, .cells 64 (k3 e1))] ?_
    refine A.mid [(1, i6 ra1), (2, i6 kind), (3, i6 lN), (16, lf af e.List), (17, i6 (e.List.length:Int)), (18, i6 (j1 : Int)), (11, .ptr 38011 0), (37, .bool ((decide (e1.aT = ra1)) && ((decide (e1.Kind = kind)) && (decide (e1.To = lN)))))] [(38011, .cells 64 (k3 e1))] (fun hk => ?_) ?_
    ·rcases tf (decide (e1.aT = ra1)) with c2 | c2
     ·rcases tf (decide (e1.Kind = kind)) with c3 | c3
      ·exact qS [(4, hto (bE c2)), (10, hto (bE c3)), (15, hto ((lG (q := decide (e1.To = lN)) c3).trans (lG (q := ((decide (e1.Kind = kind)) && (decide (e1.To = lN)))) c2)))] _ _ hk
      exact qS [(4, hto (bE c2)), (10, hto (bE c3)), (15, hto ((mI (q := decide (e1.To = lN)) c3).trans (lG (q := ((decide (e1.Kind = kind)) && (decide (e1.To = lN)))) c2)))] _ _ hk
     exact qS [(4, hto (bE c2)), (15, hto (mI (q := ((decide (e1.Kind = kind)) && (decide (e1.To = lN)))) c2))] _ _ hk
    rcases aq hm with ⟨c4,hm⟩|⟨c4,hm⟩
    ·refine qT c4 ?_
     refine qS [] [(8, i6 e1.Bit), (9, .bool true)] [] ?_
     cases hm
     exact A.ret qE
    refine qF c4 ?_
    refine A.skip ?_
    show ah _ _ _ _ _
    refine qG [(0, hto (inc hx1 hb1))] [18, 11, 37] [(18, i6 ((j1 + 1 : Nat) : Int))] [38011] [] ?_
    exact qX () hm
   rintro j1 ⟨⟩ hj1 hl1 hm
   rw [hK1] at hm
   refine qDs [] [] [(19, .bool (decide ((j1 : Int) < (e.List.length:Int))))] ?_
   refine A.seq ?_
   refine qF (ltF hl1) ?_
   refine A.exit ?_
   exact qX () hm
  refine qF c1 ?_
  refine A.skip ?_
  exact qX () hm
 rintro ⟨⟩ hm
 rw [hJ1] at hm
 refine qS [] [(8, i6 0), (9, .bool false)] [] ?_
 cases hm
 exact A.ret qE
theorem sA {t : aj} {n : Int} {r : aB × Int} (hm : kP t n = some r) : RO Try.prog 41 [] [.agg (k2 t), i6 n] (.tup [.agg (k5 r.1), i6 r.2]) := by
 refine aZ Try.func41 rfl rfl ?_
 unfold kP at hm
 refine qS [(0, .al 41002), (1, .al 41004)] [(1, i6 n), (2, .ptr 41002 0), (4, .ptr 41004 0)] [(41002, .cells 32 (k2 t)), (41004, .cells 36 [i6 0, .bf])] ?_
 refine A.seq ?_
 obtain ⟨ak, h1, hm⟩ := aa hm
 refine qDs [(1, hro (gR h1) yJ)] [] [(13, .bool (!decide (ak = (0:Int))))] ?_
 rcases aq hm with ⟨c1,hm⟩|⟨c1,hm⟩
 ·refine qT c1 ?_
  refine qD [] [1, 2, 13] [(5, i6 1)] [41002] [] ?_
  cases hm
  exact A.ret qE
 refine qF c1 ?_
 refine A.skip ?_
 show ah _ _ _ _ _
 refine A.seq ?_
 obtain ⟨aF, h2, hm⟩ := aa hm
 refine qDs [(1, hro (qy h2) alq)] [13] [(17, .bool (!aF))] ?_
 rcases aq hm with ⟨c2,hm⟩|⟨c2,hm⟩
 ·refine qT c2 ?_
  refine qD [] [1, 2, 17] [(5, i6 2)] [41002] [] ?_
  cases hm
  exact A.ret qE
 refine qF c2 ?_
 refine A.skip ?_
 show ah _ _ _ _ _
 refine qD [(2, .al 41006)] [17] [(6, .ptr 41006 0)] [] [(41006, .cells 36 [i6 n, .bf])] ?_
 refine A.seq ?_
 refine qDs [(2, hto (lnE aH t.ay))] [] [(22, lf aH t.ay), (23, i6 (t.ay.length:Int)), (24, i6 0)] ?_
 refine A.block ?_
 refine A.bS 22 rfl fun hb1 => ?_
 obtain ⟨B1, K1, hB1, hK1, hm⟩ := aP hm
 refine A.lpI (l := t.ay) (j0 := 0) (B := B1) (K := K1) hm (fun j1 => fun m_1 => [(1, i6 n), (2, .ptr 41002 0), (4, .ptr 41004 0), (6, .ptr 41006 0), (22, lf aH t.ay), (23, i6 (t.ay.length:Int)), (24, i6 (j1 : Int))]) (fun j1 => fun m_1 => [(41002, .cells 32 (k2 t)), (41004, .cells 36 [i6 0, .bf]), (41006, .cells 36 [i6 n, .own 704100601]), (704100601, .slice 64 4 (ml af m_1) 0 false)]) ?_ ?_ ?_
 ·exact bp.go [.ac 41006 704100601 64 4 1] [] (by kernel_rfl)
 ·rintro j1 e1 Z1 m_1 hj1 hx1 hm
  rw [hB1] at hm
  refine qDs [] [] [(25, .bool (decide ((j1 : Int) < (t.ay.length:Int))))] ?_
  refine A.seq ?_
  refine qT (ltT hx1) ?_
  refine A.skip ?_
  show ah _ _ _ _ _
  refine A.seq ?_
  refine A.block ?_
  refine qD [(0, hix (ix aH (aY hx1))), (2, .al 41008)] [25] [(8, .ptr 41008 0)] [] [(41008, .cells 57 (k0 e1))] ?_
  obtain ⟨l_1, h3, hm⟩ := aa hm
  refine qD [(4, hto (lnE af m_1)), (11, hap 41539 (ap af (bytes := 32) (by decide) h3))] [] [] [41006, 704100601] [(41006, .cells 36 [i6 n, .own 41539]), (41539, .slice 64 4 (ml af l_1) 0 false)] ?_
  obtain ⟨aI, h4, hm⟩ := aa hm
  refine qDs [(3, hro (s7 h4) ck70), (4, hto (lnE aA aI))] [] [(44, lf aA aI), (45, i6 (aI.length:Int)), (46, i6 0)] ?_
  refine A.block ?_
  refine A.bS 44 rfl fun hb2 => ?_
  obtain ⟨B2, K2, hB2, hK2, hm⟩ := aP hm
  refine A.lpI (l := aI) (j0 := 0) (B := B2) (K := K2) hm (fun j2 => fun m_2 => [(1, i6 n), (2, .ptr 41002 0), (4, .ptr 41004 0), (6, .ptr 41006 0), (8, .ptr 41008 0), (22, lf aH t.ay), (23, i6 (t.ay.length:Int)), (24, i6 (j1 : Int)), (44, lf aA aI), (45, i6 (aI.length:Int)), (46, i6 (j2 : Int))]) (fun j2 => fun m_2 => [(41002, .cells 32 (k2 t)), (41004, .cells 36 [i6 0, .bf]), (41006, .cells 36 [i6 n, .own 704100601]), (41008, .cells 57 (k0 e1)), (704100601, .slice 64 4 (ml af m_2) 0 false)]) ?_ ?_ ?_
  ·exact bp.go [.sw 41539 704100601] [] (by kernel_rfl)
  ·rintro j2 e2 Z2 m_2 hj2 hx2 hm
   rw [hB2] at hm
   refine qDs [] [] [(47, .bool (decide ((j2 : Int) < (aI.length:Int))))] ?_
   refine A.seq ?_
   refine qT (ltT hx2) ?_
   refine A.skip ?_
   show ah _ _ _ _ _
   refine A.seq ?_
   refine A.block ?_
   refine qDs [(0, hix (ix aA (aY hx2)))] [47] [(10, i6 e2)] ?_
   obtain ⟨l_2, h5, hm⟩ := aa hm
   refine qG [(4, hto (lnE af m_2)), (10, hap 41560 (ap af (bytes := 32) (by decide) h5))] [10] [] [41006, 704100601] [(41006, .cells 36 [i6 n, .own 41560]), (41560, .slice 64 4 (ml af l_2) 0 false)] ?_
   show ah _ _ _ _ _
   refine qGs [(0, hto (inc hx2 hb2))] [46] [(46, i6 ((j2 + 1 : Nat) : Int))] ?_
   exact Exists.intro l_2 (And.intro hm (bp.go [.sw 41560 704100601] [] (by kernel_rfl)))
  rintro j2 m_2 hj2 hl2 hm
  rw [hK2] at hm
  refine qDs [] [] [(47, .bool (decide ((j2 : Int) < (aI.length:Int))))] ?_
  refine A.seq ?_
  refine qF (ltF hl2) ?_
  refine A.exit ?_
  show ah _ _ _ _ _
  refine qG [(0, hto (inc hx1 hb1))] [8, 24, 44, 45, 46, 47] [(24, i6 ((j1 + 1 : Nat) : Int))] [41008] [] ?_
  exact qX m_2 hm
 rintro j1 m_1 hj1 hl1 hm
 rw [hK1] at hm
 refine qDs [] [] [(25, .bool (decide ((j1 : Int) < (t.ay.length:Int))))] ?_
 refine A.seq ?_
 refine qF (ltF hl1) ?_
 refine A.exit ?_
 show ah _ _ _ _ _
 refine A.seq ?_
 refine qD [(2, hto (lnE af m_1))] [1, 2, 22, 23, 24, 25] [(68, .bool (decide (n < (m_1.length:Int))))] [41002] [] ?_
 rcases aq hm with ⟨c3,hm⟩|⟨c3,hm⟩
 ·refine qT c3 ?_
  refine qD [] [6, 68] [(5, i6 3)] [41006, 704100601] [] ?_
  cases hm
  exact A.ret qE
 refine qF c3 ?_
 refine A.skip ?_
 show ah _ _ _ _ _
 refine qD [] [6, 68] [(5, i6 0)] [41004, 41006] [(41004, .cells 36 [i6 n, .own 704100601])] ?_
 refine A.ret ?_
 obtain rfl := some_inj hm
 exact A.fin W0 [.fz [704100601]] rfl (by kernel_rfl)
theorem iW {t : bB} {r : Int} (hm : fE t = some r) : RO Try.prog 15 [] [.agg (k7 t)] (i6 r) := by
 refine aZ Try.func15 rfl rfl ?_
 unfold fE at hm
 refine qS [(0, .al 15001)] [(1, .ptr 15001 0)] [(15001, .cells 25 (k7 t))] ?_
 obtain ⟨ak, h1, hm⟩ := aa hm
 refine qDs [(2, hro (fF h1) xe)] [] [(3, .bool ak)] ?_
 refine A.seq ?_
 refine qDs [(2, hto (lnE aJ t.Links))] [] [(23, lf aJ t.Links), (24, i6 (t.Links.length:Int)), (25, i6 0)] ?_
 refine A.block ?_
 refine A.bS 23 rfl fun hb1 => ?_
 obtain ⟨B1, K1, hB1, hK1, hm⟩ := aP hm
 refine A.lpI (l := t.Links) (j0 := 0) (B := B1) (K := K1) hm (fun j1 => fun tZ => [(1, .ptr 15001 0), (3, .bool tZ), (23, lf aJ t.Links), (24, i6 (t.Links.length:Int)), (25, i6 (j1 : Int))]) (fun j1 => fun tZ => [(15001, .cells 25 (k7 t))]) ?_ ?_ ?_
 ·exact qW
 ·rintro j1 e1 Z1 tZ hj1 hx1 hm
  rw [hB1] at hm
  refine qDs [] [] [(26, .bool (decide ((j1 : Int) < (t.Links.length:Int))))] ?_
  refine A.seq ?_
  refine qT (ltT hx1) ?_
  refine A.skip ?_
  show ah _ _ _ _ _
  refine A.seq ?_
  refine A.block ?_
  refine qD [(0, hix (ix aJ (aY hx1))), (2, .al 15005)] [26] [(5, .ptr 15005 0)] [] [(15005, .cells 79 (k6 e1))] ?_
  rcases aq hm with ⟨c1,hm⟩|⟨c1,hm⟩
  ·obtain ⟨aF, h2, hm⟩ := aa hm
   rcases aq hm with ⟨c2,hm⟩|⟨c2,hm⟩
   ·obtain ⟨aI, h3, hm⟩ := aa hm
    refine qG [(1, hto (bE c1)), (4, hro (fF h2) xe), (6, hto (bE c2)), (9, hro (fF h3) xe)] [3, 5] [(3, .bool aI)] [15005] [] ?_
    show ah _ _ _ _ _
    refine qGs [(0, hto (inc hx1 hb1))] [25] [(25, i6 ((j1 + 1 : Nat) : Int))] ?_
    exact qX aI hm
   refine qG [(1, hto (bE c1)), (4, hro (fF h2) xe), (6, hto (bE c2))] [3, 5] [(3, .bool false)] [15005] [] ?_
   show ah _ _ _ _ _
   refine qGs [(0, hto (inc hx1 hb1))] [25] [(25, i6 ((j1 + 1 : Nat) : Int))] ?_
   exact qX false hm
  refine qG [(1, hto (bE c1))] [3, 5] [(3, .bool false)] [15005] [] ?_
  show ah _ _ _ _ _
  refine qGs [(0, hto (inc hx1 hb1))] [25] [(25, i6 ((j1 + 1 : Nat) : Int))] ?_
  exact qX false hm
 rintro j1 tZ hj1 hl1 hm
 rw [hK1] at hm
 refine qDs [] [] [(26, .bool (decide ((j1 : Int) < (t.Links.length:Int))))] ?_
 refine A.seq ?_
 refine qF (ltF hl1) ?_
 refine A.exit ?_
 show ah _ _ _ _ _
 refine A.seq ?_
 refine qDs [] [3, 23, 24, 25, 26] [(42, .bool (!tZ))] ?_
 rcases aq hm with ⟨c3,hm⟩|⟨c3,hm⟩
 ·refine qT c3 ?_
  refine qS [] [(2, i6 2)] [] ?_
  cases hm
  exact A.ret qE
 refine qF c3 ?_
 refine A.skip ?_
 show ah _ _ _ _ _
 refine A.seq ?_
 refine qDs [] [42] [(6, i6 1)] ?_
 refine A.block ?_
 refine A.bC 1 1 rfl rfl rfl fun hb2 => ?_
 obtain ⟨B2, K2, hB2, hK2, hm⟩ := aP hm
 refine A.lpI (l := t.Links) (j0 := 1) (B := B2) (K := K2) hm (fun j2 => fun sg => match sg with | () => [(1, .ptr 15001 0), (6, i6 (j2 : Int))]) (fun j2 => fun sg => match sg with | () => [(15001, .cells 25 (k7 t))]) ?_ ?_ ?_
 ·exact qW
 ·rintro j2 e2 Z2 ⟨⟩ hj2 hx2 hm
  rw [hB2] at hm
  refine A.seq ?_
  refine qDs [(3, hto (lnE aJ t.Links))] [] [(47, .bool (decide ((j2 : Int) < (t.Links.length:Int))))] ?_
  refine qT (ltT hx2) ?_
  refine A.skip ?_
  show ah _ _ _ _ _
  refine A.seq ?_
  refine A.block ?_
  obtain ⟨e_1, h4, hm⟩ := aa hm
  refine qD [(4, hix (ix aJ h4)), (9, hix (ix aJ (aY hx2))), (11, .al 15007), (12, .al 15008)] [47] [(7, .ptr 15007 0), (8, .ptr 15008 0)] [] [(15007, .cells 79 (k6 e_1)), (15008, .cells 79 (k6 e2))] ?_
  refine A.mid [(1, .ptr 15001 0), (6, i6 (j2 : Int)), (79, .bool ((decide (e2.bJ < e_1.bJ)) || ((decide (e_1.bJ = e2.bJ)) && (decide (e2.To ≤ e_1.To)))))] [(15001, .cells 25 (k7 t))] (fun hk => ?_) ?_
  ·rcases tf (decide (e2.bJ < e_1.bJ)) with c4 | c4
   ·exact qS [(5, hto (bE c4)), (18, hto (orT (q := ((decide (e_1.bJ = e2.bJ)) && (decide (e2.To ≤ e_1.To)))) c4))] _ _ hk
   rcases tf (decide (e_1.bJ = e2.bJ)) with c5 | c5
   ·exact qS [(5, hto (bE c4)), (11, hto (bE c5)), (18, hto ((lG (q := decide (e2.To ≤ e_1.To)) c5).trans (orF (q := ((decide (e_1.bJ = e2.bJ)) && (decide (e2.To ≤ e_1.To)))) c4)))] _ _ hk
   exact qS [(5, hto (bE c4)), (11, hto (bE c5)), (18, hto ((mI (q := decide (e2.To ≤ e_1.To)) c5).trans (orF (q := ((decide (e_1.bJ = e2.bJ)) && (decide (e2.To ≤ e_1.To)))) c4)))] _ _ hk
  rcases aq hm with ⟨c6,hm⟩|⟨c6,hm⟩
  ·refine qT c6 ?_
   refine qS [] [(2, i6 25)] [] ?_
   cases hm
   exact A.ret qE
  refine qF c6 ?_
  refine A.skip ?_
  show ah _ _ _ _ _
  refine qGs [(1, hto (inc hx2 hb2))] [6, 79] [(6, i6 ((j2 + 1 : Nat) : Int))] ?_
  exact qX () hm
 rintro j2 ⟨⟩ hj2 hl2 hm
 rw [hK2] at hm
 refine A.seq ?_
 refine qDs [(3, hto (lnE aJ t.Links))] [] [(47, .bool (decide ((j2 : Int) < (t.Links.length:Int))))] ?_
 refine qF (ltF hl2) ?_
 refine A.exit ?_
 show ah _ _ _ _ _
 refine A.seq ?_
 refine qDs [(2, hto (lnE aJ t.Links))] [6, 47] [(81, lf aJ t.Links), (82, i6 (t.Links.length:Int)), (83, i6 0)] ?_
 refine A.block ?_
 refine A.bS 81 rfl fun hb3 => ?_
 obtain ⟨B3, K3, hB3, hK3, hm⟩ := aP hm
 refine A.lpI (l := t.Links) (j0 := 0) (B := B3) (K := K3) hm (fun j3 => fun sg => match sg with | () => [(1, .ptr 15001 0), (81, lf aJ t.Links), (82, i6 (t.Links.length:Int)), (83, i6 (j3 : Int))]) (fun j3 => fun sg => match sg with | () => [(15001, .cells 25 (k7 t))]) ?_ ?_ ?_
 ·exact qW
 ·rintro j3 e3 Z3 ⟨⟩ hj3 hx3 hm
  rw [hB3] at hm
  refine qDs [] [] [(84, .bool (decide ((j3 : Int) < (t.Links.length:Int))))] ?_
  refine A.seq ?_
  refine qT (ltT hx3) ?_
  refine A.skip ?_
  show ah _ _ _ _ _
  refine A.seq ?_
  refine A.block ?_
  refine qD [(1, hix (ix aJ (aY hx3))), (3, .al 15010)] [84] [(10, .ptr 15010 0), (9, i6 (j3 : Int))] [] [(15010, .cells 79 (k6 e3))] ?_
  refine A.seq ?_
  obtain ⟨l_1, h5, hm⟩ := aa hm
  refine qDs [(3, hsl (sl aJ h5)), (4, hto (lnE aJ l_1))] [9] [(91, lf aJ l_1), (92, i6 (l_1.length:Int)), (93, i6 0)] ?_
  refine A.block ?_
  refine A.bS 91 rfl fun hb4 => ?_
  obtain ⟨B4, K4, hB4, hK4, hm⟩ := aP hm
  refine A.lpI (l := l_1) (j0 := 0) (B := B4) (K := K4) hm (fun j4 => fun sg => match sg with | () => [(1, .ptr 15001 0), (10, .ptr 15010 0), (81, lf aJ t.Links), (82, i6 (t.Links.length:Int)), (83, i6 (j3 : Int)), (91, lf aJ l_1), (92, i6 (l_1.length:Int)), (93, i6 (j4 : Int))]) (fun j4 => fun sg => match sg with | () => [(15001, .cells 25 (k7 t)), (15010, .cells 79 (k6 e3))]) ?_ ?_ ?_
  ·exact qW
  ·rintro j4 e4 Z4 ⟨⟩ hj4 hx4 hm
   rw [hB4] at hm
   refine qDs [] [] [(94, .bool (decide ((j4 : Int) < (l_1.length:Int))))] ?_
   refine A.seq ?_
   refine qT (ltT hx4) ?_
   refine A.skip ?_
   show ah _ _ _ _ _
   refine A.seq ?_
   refine A.block ?_
   refine qD [(0, hix (ix aJ (aY hx4))), (2, .al 15012)] [94] [(12, .ptr 15012 0)] [] [(15012, .cells 79 (k6 e4))] ?_
   refine qD [] [12] [(101, .bool (decide (e4.To = e3.To)))] [15012] [] ?_
   rcases aq hm with ⟨c7,hm⟩|⟨c7,hm⟩
   ·refine qT c7 ?_
    refine qS [] [(2, i6 8)] [] ?_
    cases hm
    exact A.ret qE
   refine qF c7 ?_
   refine A.skip ?_
   show ah _ _ _ _ _
   refine qGs [(0, hto (inc hx4 hb4))] [93, 101] [(93, i6 ((j4 + 1 : Nat) : Int))] ?_
   exact qX () hm
  rintro j4 ⟨⟩ hj4 hl4 hm
  rw [hK4] at hm
  refine qDs [] [] [(94, .bool (decide ((j4 : Int) < (l_1.length:Int))))] ?_
  refine A.seq ?_
  refine qF (ltF hl4) ?_
  refine A.exit ?_
  show ah _ _ _ _ _
  refine qD [] [10, 91, 92, 93, 94] [(107, .bool (decide (e3.To = t.bL)))] [15010] [] ?_
  rcases aq hm with ⟨c8,hm⟩|⟨c8,hm⟩
  ·refine qT c8 ?_
   refine qS [] [(2, i6 8)] [] ?_
   cases hm
   exact A.ret qE
  refine qF c8 ?_
  refine A.skip ?_
  show ah _ _ _ _ _
  refine qGs [(0, hto (inc hx3 hb3))] [83, 107] [(83, i6 ((j3 + 1 : Nat) : Int))] ?_
  exact qX () hm
 rintro j3 ⟨⟩ hj3 hl3 hm
 rw [hK3] at hm
 refine qDs [] [] [(84, .bool (decide ((j3 : Int) < (t.Links.length:Int))))] ?_
 refine A.seq ?_
 refine qF (ltF hl3) ?_
 refine A.exit ?_
 show ah _ _ _ _ _
 refine qD [(2, .al 15111)] [81, 82, 83, 84] [(13, .own 15111)] [] [(15111, .slice 3 1 (ml aA ([t.bL] : List Int)) 0 false)] ?_
 refine A.seq ?_
 refine qDs [] [] [(14, .bool true)] ?_
 refine A.block ?_
 obtain ⟨F5, n5, hF5, hm⟩ := iJ hm
 refine A.lpW (F := F5) hm (fun sg => match sg with | (mO, oA) => [(1, .ptr 15001 0), (13, .own 600015013), (14, .bool oA)]) (fun sg => match sg with | (mO, oA) => [(15001, .cells 25 (k7 t)), (600015013, .slice 3 1 (ml aA mO) 0 false)]) ?_ ?_
 ·exact bp.go [.sw 15111 600015013] [] (by kernel_rfl)
 rintro Z5 ⟨mO, oA⟩ hm
 rw [hF5] at hm
 refine A.seq ?_
 refine qDs [] [] [(112, .bool oA)] ?_
 rcases aq hm with ⟨c9,hm⟩|⟨c9,hm⟩
 ·refine qT c9 ?_
  refine A.skip ?_
  show ah _ _ _ _ _
  refine A.block ?_
  refine qDs [] [14, 112] [(14, .bool false)] ?_
  refine qDs [(2, hto (lnE aJ t.Links))] [] [(114, lf aJ t.Links), (115, i6 (t.Links.length:Int)), (116, i6 0)] ?_
  refine A.block ?_
  refine A.bS 114 rfl fun hb6 => ?_
  obtain ⟨B6, K6, hB6, hK6, hm⟩ := aP hm
  refine A.lpI (l := t.Links) (j0 := 0) (B := B6) (K := K6) hm (fun j6 => fun sg => match sg with | (fI, iw) => [(1, .ptr 15001 0), (13, .own 600015013), (14, .bool iw), (114, lf aJ t.Links), (115, i6 (t.Links.length:Int)), (116, i6 (j6 : Int))]) (fun j6 => fun sg => match sg with | (fI, iw) => [(15001, .cells 25 (k7 t)), (600015013, .slice 3 1 (ml aA fI) 0 false)]) ?_ ?_ ?_
  ·exact qW
  ·rintro j6 e6 Z6 ⟨fI, iw⟩ hj6 hx6 hm
   rw [hB6] at hm
   refine qDs [] [] [(117, .bool (decide ((j6 : Int) < (t.Links.length:Int))))] ?_
   refine A.seq ?_
   refine qT (ltT hx6) ?_
   refine A.skip ?_
   show ah _ _ _ _ _
   obtain ⟨J1, hJ1, hm⟩ := bN hm
   refine A.J (J := J1) (r := r) (fun sg => match sg with | (oB, oC) => [(1, .ptr 15001 0), (13, .own 600015013), (14, .bool oC), (114, lf aJ t.Links), (115, i6 (t.Links.length:Int)), (116, i6 (j6 : Int))]) (fun sg => match sg with | (oB, oC) => [(15001, .cells 25 (k7 t)), (600015013, .slice 3 1 (ml aA oB) 0 false)]) ?_ ?_
   ·refine A.block ?_
    refine qD [(0, hix (ix aJ (aY hx6))), (2, .al 15016)] [117] [(16, .ptr 15016 0)] [] [(15016, .cells 79 (k6 e6))] ?_
    obtain ⟨J2, hJ2, hm⟩ := bN hm
    refine A.J (J := J2) (r := r) (fun v_1 => [(1, .ptr 15001 0), (13, .own 600015013), (14, .bool iw), (16, .ptr 15016 0), (114, lf aJ t.Links), (115, i6 (t.Links.length:Int)), (116, i6 (j6 : Int)), (130, .bool v_1)]) (fun v_1 => [(15001, .cells 25 (k7 t)), (600015013, .slice 3 1 (ml aA fI) 0 false), (15016, .cells 79 (k6 e6))]) ?_ ?_
    ·obtain ⟨aU, h6, hm⟩ := aa hm
     rcases aq hm with ⟨c10,hm⟩|⟨c10,hm⟩
     ·obtain ⟨aX, h7, hm⟩ := aa hm
      refine qGs [(3, hle [600015013] (dn h6) tW), (4, hto (bE c10)), (8, hle [600015013] (dn h7) tW)] [] [(130, .bool (!aX))] ?_
      exact qX (!aX) hm
     refine qGs [(3, hle [600015013] (dn h6) tW), (4, hto (bE c10))] [] [(130, .bool false)] ?_
     exact qX false hm
    rintro v_1 hm
    rw [hJ2] at hm
    rcases aq hm with ⟨c11,hm⟩|⟨c11,hm⟩
    ·refine qT c11 ?_
     obtain ⟨l_2, h8, hm⟩ := aa hm
     refine qG [(4, hap 15635 (ap aA (bytes := 8) (by decide) h8))] [13, 14, 16, 130] [(13, .own 15635), (14, .bool true)] [600015013, 15016] [(15635, .slice 3 1 (ml aA l_2) 0 false)] ?_
     exact Exists.intro (l_2, true) (And.intro hm (bp.go [.sw 15635 600015013] [] (by kernel_rfl)))
    refine qF c11 ?_
    refine A.skip ?_
    exact qX (fI, iw) hm
   rintro ⟨oB, oC⟩ hm
   rw [hJ1] at hm
   refine qGs [(0, hto (inc hx6 hb6))] [116] [(116, i6 ((j6 + 1 : Nat) : Int))] ?_
   exact qX (oB, oC) hm
  rintro j6 ⟨fI, iw⟩ hj6 hl6 hm
  rw [hK6] at hm
  refine qDs [] [] [(117, .bool (decide ((j6 : Int) < (t.Links.length:Int))))] ?_
  refine A.seq ?_
  refine qF (ltF hl6) ?_
  refine A.exit ?_
  exact qX (fI, iw) hm
 refine qF c9 ?_
 refine A.exit ?_
 show ah _ _ _ _ _
 refine A.seq ?_
 refine qD [(2, hto (lnE aJ t.Links))] [1, 14, 112] [(138, lf aJ t.Links), (139, i6 (t.Links.length:Int)), (140, i6 0)] [15001] [] ?_
 refine A.block ?_
 refine A.bS 138 rfl fun hb7 => ?_
 obtain ⟨B7, K7, hB7, hK7, hm⟩ := aP hm
 refine A.lpI (l := t.Links) (j0 := 0) (B := B7) (K := K7) hm (fun j7 => fun sg => match sg with | () => [(13, .own 600015013), (138, lf aJ t.Links), (139, i6 (t.Links.length:Int)), (140, i6 (j7 : Int))]) (fun j7 => fun sg => match sg with | () => [(600015013, .slice 3 1 (ml aA mO) 0 false)]) ?_ ?_ ?_
 ·exact qW
 ·rintro j7 e7 Z7 ⟨⟩ hj7 hx7 hm
  rw [hB7] at hm
  refine qDs [] [] [(141, .bool (decide ((j7 : Int) < (t.Links.length:Int))))] ?_
  refine A.seq ?_
  refine qT (ltT hx7) ?_
  refine A.skip ?_
  show ah _ _ _ _ _
  refine A.seq ?_
  refine A.block ?_
  refine qD [(0, hix (ix aJ (aY hx7))), (2, .al 15018)] [141] [(18, .ptr 15018 0)] [] [(15018, .cells 79 (k6 e7))] ?_
  obtain ⟨aS, h9, hm⟩ := aa hm
  refine qD [(3, hle [600015013] (dn h9) tW)] [18] [(148, .bool (!aS))] [15018] [] ?_
  rcases aq hm with ⟨c12,hm⟩|⟨c12,hm⟩
  ·refine qT c12 ?_
   refine qS [] [(2, i6 10)] [] ?_
   cases hm
   exact A.ret qE
  refine qF c12 ?_
  refine A.skip ?_
  show ah _ _ _ _ _
  refine qGs [(0, hto (inc hx7 hb7))] [140, 148] [(140, i6 ((j7 + 1 : Nat) : Int))] ?_
  exact qX () hm
 rintro j7 ⟨⟩ hj7 hl7 hm
 rw [hK7] at hm
 refine qDs [] [] [(141, .bool (decide ((j7 : Int) < (t.Links.length:Int))))] ?_
 refine A.seq ?_
 refine qF (ltF hl7) ?_
 refine A.exit ?_
 show ah _ _ _ _ _
 refine qS [] [(2, i6 0)] [] ?_
 cases hm
 exact A.ret qE
theorem iy {t : bB} {r : (List Int)} (hm : eV t = some r) : RO Try.prog 18 [] [.agg (k7 t)] (lf aA r) := by
 refine aZ Try.func18 rfl rfl ?_
 unfold eV at hm
 refine qS [(0, .al 18001)] [(1, .ptr 18001 0)] [(18001, .cells 25 (k7 t))] ?_
 refine A.seq ?_
 obtain ⟨ak, h1, hm⟩ := aa hm
 refine qDs [(1, hro (iW h1) ab2)] [] [(8, .bool (!decide (ak = (0:Int))))] ?_
 rcases aq hm with ⟨c1,hm⟩|⟨c1,hm⟩
 ·refine qT c1 ?_
  refine qS [] [(2, .bf)] [] ?_
  cases hm
  exact A.ret qE
 refine qF c1 ?_
 refine A.skip ?_
 show ah _ _ _ _ _
 refine qDs [] [8] [(3, .lst true (ml aA ([t.bL] : List Int)))] ?_
 refine A.seq ?_
 refine qD [(2, hto (lnE aJ t.Links))] [1] [(13, lf aJ t.Links), (14, i6 (t.Links.length:Int)), (15, i6 0)] [18001] [] ?_
 refine A.block ?_
 refine A.bS 13 rfl fun hb1 => ?_
 obtain ⟨B1, K1, hB1, hK1, hm⟩ := aP hm
 refine A.lpI (l := t.Links) (j0 := 0) (B := B1) (K := K1) hm (fun j1 => fun bO => [(3, lf aA bO), (13, lf aJ t.Links), (14, i6 (t.Links.length:Int)), (15, i6 (j1 : Int))]) (fun j1 => fun bO => []) ?_ ?_ ?_
 ·exact bp.go [] [3] (by kernel_rfl)
 ·rintro j1 e1 Z1 bO hj1 hx1 hm
  rw [hB1] at hm
  refine qDs [] [] [(16, .bool (decide ((j1 : Int) < (t.Links.length:Int))))] ?_
  refine A.seq ?_
  refine qT (ltT hx1) ?_
  refine A.skip ?_
  show ah _ _ _ _ _
  refine A.seq ?_
  refine A.block ?_
  refine qD [(0, hix (ix aJ (aY hx1))), (2, .al 18005)] [16] [(5, .ptr 18005 0)] [] [(18005, .cells 79 (k6 e1))] ?_
  obtain ⟨aF, h2, hm⟩ := aa hm
  refine qG [(3, hro (o7 h2) alm)] [3, 5] [(3, lf aA aF)] [18005] [] ?_
  show ah _ _ _ _ _
  refine qGs [(0, hto (inc hx1 hb1))] [15] [(15, i6 ((j1 + 1 : Nat) : Int))] ?_
  exact Exists.intro aF (And.intro hm (bp.go [] [3] (by kernel_rfl)))
 rintro j1 bO hj1 hl1 hm
 rw [hK1] at hm
 refine qDs [] [] [(16, .bool (decide ((j1 : Int) < (t.Links.length:Int))))] ?_
 refine A.seq ?_
 refine qF (ltF hl1) ?_
 refine A.exit ?_
 show ah _ _ _ _ _
 refine qS [] [(2, lf aA bO)] [] ?_
 cases hm
 exact A.ret qE
theorem ua {l : List Int} {r : Bool} (hm : iP l = some r) : RO Try.prog 55 [] [lf aA l] (.bool r) := by
 refine aZ Try.func55 rfl rfl ?_
 unfold iP at hm
 refine qS [] [(0, lf aA l)] [] ?_
 refine A.seq ?_
 refine qDs [] [] [(3, i6 1)] ?_
 refine A.block ?_
 refine A.bS 0 rfl fun hb1 => ?_
 obtain ⟨B1, K1, hB1, hK1, hm⟩ := aP hm
 refine A.lpI (l := l) (j0 := 1) (B := B1) (K := K1) hm (fun j1 => fun sg => match sg with | () => [(0, lf aA l), (3, i6 (j1 : Int))]) (fun j1 => fun sg => match sg with | () => []) ?_ ?_ ?_
 ·exact qW
 ·rintro j1 e1 Z1 ⟨⟩ hj1 hx1 hm
  rw [hB1] at hm
  refine A.seq ?_
  refine qDs [(2, hto (lnE aA l))] [] [(7, .bool (decide ((j1 : Int) < (l.length:Int))))] ?_
  refine qT (ltT hx1) ?_
  refine A.skip ?_
  show ah _ _ _ _ _
  refine A.seq ?_
  refine A.block ?_
  obtain ⟨e_1, h1, hm⟩ := aa hm
  refine qDs [(3, hix (ix aA h1)), (7, hix (ix aA (aY hx1)))] [7] [(19, .bool (decide (e1 ≤ e_1)))] ?_
  rcases aq hm with ⟨c1,hm⟩|⟨c1,hm⟩
  ·refine qT c1 ?_
   refine qS [] [(2, .bool false)] [] ?_
   cases hm
   exact A.ret qE
  refine qF c1 ?_
  refine A.skip ?_
  show ah _ _ _ _ _
  refine qGs [(1, hto (inc hx1 hb1))] [3, 19] [(3, i6 ((j1 + 1 : Nat) : Int))] ?_
  exact qX () hm
 rintro j1 ⟨⟩ hj1 hl1 hm
 rw [hK1] at hm
 refine A.seq ?_
 refine qDs [(2, hto (lnE aA l))] [] [(7, .bool (decide ((j1 : Int) < (l.length:Int))))] ?_
 refine qF (ltF hl1) ?_
 refine A.exit ?_
 show ah _ _ _ _ _
 refine qS [] [(2, .bool true)] [] ?_
 cases hm
 exact A.ret qE
theorem x8 {e : aB} {t : bB} {receivers : List Int} {r : Int × Int} (hm : mP e t receivers = some r) : RO Try.prog 22 [] [.agg (k5 e), .agg (k7 t), lf aA receivers] (.tup [.int .u64 r.1, i6 r.2]) := by
 refine aZ Try.func22 rfl rfl ?_
 unfold mP at hm
 refine qS [(0, .al 22003), (1, .al 22004)] [(2, lf aA receivers), (3, .ptr 22003 0), (4, .ptr 22004 0)] [(22003, .cells 36 (k5 e)), (22004, .cells 25 (k7 t))] ?_
 refine A.seq ?_
 obtain ⟨ak, h1, hm⟩ := aa hm
 refine qDs [(1, hro (fK h1) yI)] [] [(8, i6 ak)] ?_
 refine qDs [] [] [(25, .bool (!decide (ak = (0:Int))))] ?_
 rcases aq hm with ⟨c1,hm⟩|⟨c1,hm⟩
 ·refine qT c1 ?_
  refine qS [] [(6, .int .u64 (0:Int)), (7, i6 ak)] [] ?_
  cases hm
  exact A.ret qE
 refine qF c1 ?_
 refine A.skip ?_
 show ah _ _ _ _ _
 refine A.seq ?_
 obtain ⟨aF, h2, hm⟩ := aa hm
 refine qDs [(1, hro (iW h2) ab2)] [8, 25] [(9, i6 aF)] ?_
 refine qDs [] [] [(30, .bool (!decide (aF = (0:Int))))] ?_
 rcases aq hm with ⟨c2,hm⟩|⟨c2,hm⟩
 ·refine qT c2 ?_
  refine qS [] [(6, .int .u64 (0:Int)), (7, i6 aF)] [] ?_
  cases hm
  exact A.ret qE
 refine qF c2 ?_
 refine A.skip ?_
 show ah _ _ _ _ _
 refine A.seq ?_
 obtain ⟨aI, h3, hm⟩ := aa hm
 refine qDs [(1, hro (ua h3) ck55)] [9, 30] [(34, .bool (!aI))] ?_
 rcases aq hm with ⟨c3,hm⟩|⟨c3,hm⟩
 ·refine qT c3 ?_
  refine qS [] [(6, .int .u64 (0:Int)), (7, i6 25)] [] ?_
  cases hm
  exact A.ret qE
 refine qF c3 ?_
 refine A.skip ?_
 show ah _ _ _ _ _
 obtain ⟨aU, h4, hm⟩ := aa hm
 refine qDs [(1, hro (iy h4) aaj)] [34] [(10, lf aA aU)] ?_
 refine A.seq ?_
 refine qDs [(1, hto (lnE aA receivers))] [] [(37, lf aA receivers), (38, i6 (receivers.length:Int)), (39, i6 0)] ?_
 refine A.block ?_
 refine A.bS 2 rfl fun hb1 => ?_
 obtain ⟨B1, K1, hB1, hK1, hm⟩ := aP hm
 refine A.lpI (l := receivers) (j0 := 0) (B := B1) (K := K1) hm (fun j1 => fun sg => match sg with | () => [(2, lf aA receivers), (3, .ptr 22003 0), (4, .ptr 22004 0), (10, lf aA aU), (37, lf aA receivers), (38, i6 (receivers.length:Int)), (39, i6 (j1 : Int))]) (fun j1 => fun sg => match sg with | () => [(22003, .cells 36 (k5 e)), (22004, .cells 25 (k7 t))]) ?_ ?_ ?_
 ·exact qW
 ·rintro j1 e1 Z1 ⟨⟩ hj1 hx1 hm
  rw [hB1] at hm
  refine qDs [] [] [(40, .bool (decide ((j1 : Int) < (receivers.length:Int))))] ?_
  refine A.seq ?_
  refine qT (ltT hx1) ?_
  refine A.skip ?_
  show ah _ _ _ _ _
  refine A.seq ?_
  refine A.block ?_
  refine qDs [(0, hix (ix aA (aY hx1)))] [40] [(12, i6 e1)] ?_
  obtain ⟨aX, h5, hm⟩ := aa hm
  refine qDs [(2, hro (dn h5) tW)] [12] [(46, .bool (!aX))] ?_
  rcases aq hm with ⟨c4,hm⟩|⟨c4,hm⟩
  ·refine qT c4 ?_
   refine qS [] [(6, .int .u64 (0:Int)), (7, i6 8)] [] ?_
   cases hm
   exact A.ret qE
  refine qF c4 ?_
  refine A.skip ?_
  show ah _ _ _ _ _
  refine qGs [(0, hto (inc hx1 hb1))] [39, 46] [(39, i6 ((j1 + 1 : Nat) : Int))] ?_
  exact qX () hm
 rintro j1 ⟨⟩ hj1 hl1 hm
 rw [hK1] at hm
 refine qDs [] [] [(40, .bool (decide ((j1 : Int) < (receivers.length:Int))))] ?_
 refine A.seq ?_
 refine qF (ltF hl1) ?_
 refine A.exit ?_
 show ah _ _ _ _ _
 refine qDs [] [10, 37, 38, 39, 40] [(13, .int .u64 (0:Int))] ?_
 refine A.seq ?_
 refine qD [(2, hto (lnE aJ t.Links))] [4] [(49, lf aJ t.Links), (50, i6 (t.Links.length:Int)), (51, i6 0)] [22004] [] ?_
 refine A.block ?_
 refine A.bS 49 rfl fun hb2 => ?_
 obtain ⟨B2, K2, hB2, hK2, hm⟩ := aP hm
 refine A.lpI (l := t.Links) (j0 := 0) (B := B2) (K := K2) hm (fun j2 => fun bO => [(2, lf aA receivers), (3, .ptr 22003 0), (13, .int .u64 bO), (49, lf aJ t.Links), (50, i6 (t.Links.length:Int)), (51, i6 (j2 : Int))]) (fun j2 => fun bO => [(22003, .cells 36 (k5 e))]) ?_ ?_ ?_
 ·exact qW
 ·rintro j2 e2 Z2 bO hj2 hx2 hm
  rw [hB2] at hm
  refine qDs [] [] [(52, .bool (decide ((j2 : Int) < (t.Links.length:Int))))] ?_
  refine A.seq ?_
  refine qT (ltT hx2) ?_
  refine A.skip ?_
  show ah _ _ _ _ _
  refine A.seq ?_
  refine A.block ?_
  refine qD [(0, hix (ix aJ (aY hx2))), (2, .al 22015)] [52] [(15, .ptr 22015 0)] [] [(22015, .cells 79 (k6 e2))] ?_
  obtain ⟨aS, h6, hm⟩ := aa hm
  refine qD [(5, hro (mw h6) ab5)] [15] [(16, i6 aS.1), (17, .bool aS.2)] [22015] [] ?_
  refine A.seq ?_
  refine qDs [] [17] [(65, .bool (!aS.2))] ?_
  rcases aq hm with ⟨c5,hm⟩|⟨c5,hm⟩
  ·refine qT c5 ?_
   refine qS [] [(6, .int .u64 (0:Int)), (7, i6 4)] [] ?_
   cases hm
   exact A.ret qE
  refine qF c5 ?_
  refine A.skip ?_
  show ah _ _ _ _ _
  obtain ⟨h7, hm⟩ := eP hm
  refine qGs [(3, .sh (IntKind.wrap .u64 aS.1) (of_decide_eq_true h7))] [13, 16, 65] [(13, .int .u64 (cg .or .u64 bO (IntKind.wrap .u64 ((1:Int) * 2 ^ min (IntKind.wrap .u64 aS.1).toNat 64))))] ?_
  show ah _ _ _ _ _
  refine qGs [(0, hto (inc hx2 hb2))] [51] [(51, i6 ((j2 + 1 : Nat) : Int))] ?_
  exact qX (cg .or .u64 bO (IntKind.wrap .u64 ((1:Int) * 2 ^ min (IntKind.wrap .u64 aS.1).toNat 64))) hm
 rintro j2 bO hj2 hl2 hm
 rw [hK2] at hm
 refine qDs [] [] [(52, .bool (decide ((j2 : Int) < (t.Links.length:Int))))] ?_
 refine A.seq ?_
 refine qF (ltF hl2) ?_
 refine A.exit ?_
 show ah _ _ _ _ _
 refine A.seq ?_
 refine qDs [(1, hto (lnE aA receivers))] [2, 49, 50, 51, 52] [(72, lf aA receivers), (73, i6 (receivers.length:Int)), (74, i6 0)] ?_
 refine A.block ?_
 refine A.bS 72 rfl fun hb3 => ?_
 obtain ⟨B3, K3, hB3, hK3, hm⟩ := aP hm
 refine A.lpI (l := receivers) (j0 := 0) (B := B3) (K := K3) hm (fun j3 => fun cV => [(3, .ptr 22003 0), (13, .int .u64 cV), (72, lf aA receivers), (73, i6 (receivers.length:Int)), (74, i6 (j3 : Int))]) (fun j3 => fun cV => [(22003, .cells 36 (k5 e))]) ?_ ?_ ?_
 ·exact qW
 ·rintro j3 e3 Z3 cV hj3 hx3 hm
  rw [hB3] at hm
  refine qDs [] [] [(75, .bool (decide ((j3 : Int) < (receivers.length:Int))))] ?_
  refine A.seq ?_
  refine qT (ltT hx3) ?_
  refine A.skip ?_
  show ah _ _ _ _ _
  refine A.seq ?_
  refine A.block ?_
  refine qDs [(0, hix (ix aA (aY hx3)))] [75] [(19, i6 e3)] ?_
  obtain ⟨bh, h8, hm⟩ := aa hm
  refine qDs [(3, hro (mw h8) ab5)] [19] [(20, i6 bh.1), (21, .bool bh.2)] ?_
  refine A.seq ?_
  refine qDs [] [21] [(86, .bool (!bh.2))] ?_
  rcases aq hm with ⟨c6,hm⟩|⟨c6,hm⟩
  ·refine qT c6 ?_
   refine qS [] [(6, .int .u64 (0:Int)), (7, i6 4)] [] ?_
   cases hm
   exact A.ret qE
  refine qF c6 ?_
  refine A.skip ?_
  show ah _ _ _ _ _
  obtain ⟨h9, hm⟩ := eP hm
  refine qGs [(3, .sh (IntKind.wrap .u64 bh.1) (of_decide_eq_true h9))] [13, 20, 86] [(13, .int .u64 (cg .or .u64 cV (IntKind.wrap .u64 ((1:Int) * 2 ^ min (IntKind.wrap .u64 bh.1).toNat 64))))] ?_
  show ah _ _ _ _ _
  refine qGs [(0, hto (inc hx3 hb3))] [74] [(74, i6 ((j3 + 1 : Nat) : Int))] ?_
  exact qX (cg .or .u64 cV (IntKind.wrap .u64 ((1:Int) * 2 ^ min (IntKind.wrap .u64 bh.1).toNat 64))) hm
 rintro j3 cV hj3 hl3 hm
 rw [hK3] at hm
 refine qDs [] [] [(75, .bool (decide ((j3 : Int) < (receivers.length:Int))))] ?_
 refine A.seq ?_
 refine qF (ltF hl3) ?_
 refine A.exit ?_
 show ah _ _ _ _ _
 refine qS [] [(6, .int .u64 cV), (7, i6 0)] [] ?_
 cases hm
 exact A.ret qE
theorem sB {a : aB} {b : aB} {r : Bool} (hm : kQ a b = some r) : RO Try.prog 34 [] [.agg (k5 a), .agg (k5 b)] (.bool r) := by
 refine aZ Try.func34 rfl rfl ?_
 unfold kQ at hm
 refine qS [(0, .al 34002), (1, .al 34003)] [(2, .ptr 34002 0), (3, .ptr 34003 0)] [(34002, .cells 36 (k5 a)), (34003, .cells 36 (k5 b))] ?_
 refine A.seq ?_
 refine A.mid [(2, .ptr 34002 0), (3, .ptr 34003 0), (19, .bool ((!decide (a.Length = b.Length)) || (!decide ((a.List.length:Int) = (b.List.length:Int)))))] [(34002, .cells 36 (k5 a)), (34003, .cells 36 (k5 b))] (fun hk => ?_) ?_
 ·rcases tf (!decide (a.Length = b.Length)) with c1 | c1
  ·exact qS [(5, hto (bE c1)), (13, hto (orT (q := !decide ((a.List.length:Int) = (b.List.length:Int))) c1))] _ _ hk
  exact qS [(5, hto (bE c1)), (8, hto (lnE af a.List)), (11, hto (lnE af b.List)), (13, hto (orF (q := !decide ((a.List.length:Int) = (b.List.length:Int))) c1))] _ _ hk
 rcases aq hm with ⟨c2,hm⟩|⟨c2,hm⟩
 ·refine qT c2 ?_
  refine qS [] [(4, .bool false)] [] ?_
  cases hm
  exact A.ret qE
 refine qF c2 ?_
 refine A.skip ?_
 show ah _ _ _ _ _
 refine A.seq ?_
 refine qDs [(2, hto (lnE af a.List))] [19] [(22, i6 (a.List.length:Int)), (23, i6 0)] ?_
 refine A.block ?_
 refine A.bC 2 1 rfl rfl rfl fun hb1 => ?_
 obtain ⟨B1, K1, hB1, hK1, hm⟩ := aP hm
 refine A.lpI (l := a.List) (j0 := 0) (B := B1) (K := K1) hm (fun j1 => fun sg => match sg with | () => [(2, .ptr 34002 0), (3, .ptr 34003 0), (22, i6 (a.List.length:Int)), (23, i6 (j1 : Int))]) (fun j1 => fun sg => match sg with | () => [(34002, .cells 36 (k5 a)), (34003, .cells 36 (k5 b))]) ?_ ?_ ?_
 ·exact qW
 ·rintro j1 e1 Z1 ⟨⟩ hj1 hx1 hm
  rw [hB1] at hm
  refine qDs [] [] [(24, .bool (decide ((j1 : Int) < (a.List.length:Int))))] ?_
  refine A.seq ?_
  refine qT (ltT hx1) ?_
  refine A.skip ?_
  show ah _ _ _ _ _
  refine A.seq ?_
  refine A.block ?_
  refine qDs [] [24] [(5, i6 (j1 : Int))] ?_
  obtain ⟨e_1, h1, hm⟩ := aa hm
  refine qDs [(3, hix (ix af (aY hx1))), (8, hix (ix af h1)), (10, .sq true 64 (.agg (k3 e1)) (.agg (k3 e_1)) (!(ee e1 e_1)) (fun x y w => z6 x y _ _ _ _ _ _ _ _ w))] [5] [(36, .bool (!(ee e1 e_1)))] ?_
  rcases aq hm with ⟨c3,hm⟩|⟨c3,hm⟩
  ·refine qT c3 ?_
   refine qS [] [(4, .bool false)] [] ?_
   cases hm
   exact A.ret qE
  refine qF c3 ?_
  refine A.skip ?_
  show ah _ _ _ _ _
  refine qGs [(0, hto (inc hx1 hb1))] [23, 36] [(23, i6 ((j1 + 1 : Nat) : Int))] ?_
  exact qX () hm
 rintro j1 ⟨⟩ hj1 hl1 hm
 rw [hK1] at hm
 refine qDs [] [] [(24, .bool (decide ((j1 : Int) < (a.List.length:Int))))] ?_
 refine A.seq ?_
 refine qF (ltF hl1) ?_
 refine A.exit ?_
 show ah _ _ _ _ _
 refine qS [] [(4, .bool true)] [] ?_
 cases hm
 exact A.ret qE
theorem jx {a : bB} {b : bB} {r : Bool} (hm : jj a b = some r) : RO Try.prog 25 [] [.agg (k7 a), .agg (k7 b)] (.bool r) := by
 refine aZ Try.func25 rfl rfl ?_
 unfold jj at hm
 refine qS [(0, .al 25002), (1, .al 25003)] [(2, .ptr 25002 0), (3, .ptr 25003 0)] [(25002, .cells 25 (k7 a)), (25003, .cells 25 (k7 b))] ?_
 refine A.seq ?_
 refine A.mid [(2, .ptr 25002 0), (3, .ptr 25003 0), (19, .bool ((!decide (a.bL = b.bL)) || (!decide ((a.Links.length:Int) = (b.Links.length:Int)))))] [(25002, .cells 25 (k7 a)), (25003, .cells 25 (k7 b))] (fun hk => ?_) ?_
 ·rcases tf (!decide (a.bL = b.bL)) with c1 | c1
  ·exact qS [(5, hto (bE c1)), (13, hto (orT (q := !decide ((a.Links.length:Int) = (b.Links.length:Int))) c1))] _ _ hk
  exact qS [(5, hto (bE c1)), (8, hto (lnE aJ a.Links)), (11, hto (lnE aJ b.Links)), (13, hto (orF (q := !decide ((a.Links.length:Int) = (b.Links.length:Int))) c1))] _ _ hk
 rcases aq hm with ⟨c2,hm⟩|⟨c2,hm⟩
 ·refine qT c2 ?_
  refine qS [] [(4, .bool false)] [] ?_
  cases hm
  exact A.ret qE
 refine qF c2 ?_
 refine A.skip ?_
 show ah _ _ _ _ _
 refine A.seq ?_
 refine qDs [(2, hto (lnE aJ a.Links))] [19] [(22, i6 (a.Links.length:Int)), (23, i6 0)] ?_
 refine A.block ?_
 refine A.bC 2 1 rfl rfl rfl fun hb1 => ?_
 obtain ⟨B1, K1, hB1, hK1, hm⟩ := aP hm
 refine A.lpI (l := a.Links) (j0 := 0) (B := B1) (K := K1) hm (fun j1 => fun sg => match sg with | () => [(2, .ptr 25002 0), (3, .ptr 25003 0), (22, i6 (a.Links.length:Int)), (23, i6 (j1 : Int))]) (fun j1 => fun sg => match sg with | () => [(25002, .cells 25 (k7 a)), (25003, .cells 25 (k7 b))]) ?_ ?_ ?_
 ·exact qW
 ·rintro j1 e1 Z1 ⟨⟩ hj1 hx1 hm
  rw [hB1] at hm
  refine qDs [] [] [(24, .bool (decide ((j1 : Int) < (a.Links.length:Int))))] ?_
  refine A.seq ?_
  refine qT (ltT hx1) ?_
  refine A.skip ?_
  show ah _ _ _ _ _
  refine A.seq ?_
  refine A.block ?_
  refine qDs [] [24] [(5, i6 (j1 : Int))] ?_
  obtain ⟨e_1, h1, hm⟩ := aa hm
  refine qDs [(3, hix (ix aJ (aY hx1))), (8, hix (ix aJ h1)), (10, .sq true 79 (.agg (k6 e1)) (.agg (k6 e_1)) (!(rL e1 e_1)) (fun x y w => adB x y _ _ _ _ w))] [5] [(36, .bool (!(rL e1 e_1)))] ?_
  rcases aq hm with ⟨c3,hm⟩|⟨c3,hm⟩
  ·refine qT c3 ?_
   refine qS [] [(4, .bool false)] [] ?_
   cases hm
   exact A.ret qE
  refine qF c3 ?_
  refine A.skip ?_
  show ah _ _ _ _ _
  refine qGs [(0, hto (inc hx1 hb1))] [23, 36] [(23, i6 ((j1 + 1 : Nat) : Int))] ?_
  exact qX () hm
 rintro j1 ⟨⟩ hj1 hl1 hm
 rw [hK1] at hm
 refine qDs [] [] [(24, .bool (decide ((j1 : Int) < (a.Links.length:Int))))] ?_
 refine A.seq ?_
 refine qF (ltF hl1) ?_
 refine A.exit ?_
 show ah _ _ _ _ _
 refine qS [] [(4, .bool true)] [] ?_
 cases hm
 exact A.ret qE
end Go.Proofs.Ytmfehenfoepkfaa
