/- The eC of cr of the program. No condition but bT bB stand in each. -/
import Derived.Test.YtpmifmdidfgpdaaGreatDA
import Derived.Test.YtpmifmdidfgpdaaGreatV4
import Derived.Test.YtpmifmdidfgpdaaGreatVC
import Derived.Test.YtpmifmdidfgpdaaGreatSF
namespace Go.Proofs.YtpmifmdidfgpdaaGreat
open Go
set_option maxRecDepth 100000
set_option linter.all false
theorem kM {n : Int} {r : Bool} (hm : ij n = some r) : RO Tryz.prog 112 [] [i6 n] (.bool r) := by
 refine aT Tryz.func112 rfl rfl ?_
 unfold ij at hm
 refine qS [] [(0, i6 n)] [] ?_
 refine A.mid [(2, .bool ((decide (n = (8:Int))) || ((decide (n = (16:Int))) || ((decide (n = (32:Int))) || (decide (n = (64:Int)))))))] [] (fun hk => ?_) ?_
 ·rcases tf (decide (n = (8:Int))) with c1 | c1
  ·exact qS [(2, hto (bE c1)), (14, hto (orT (q := ((decide (n = (16:Int))) || ((decide (n = (32:Int))) || (decide (n = (64:Int)))))) c1))] _ _ hk
  rcases tf (decide (n = (16:Int))) with c2 | c2
  ·exact qS [(2, hto (bE c1)), (6, hto (bE c2)), (14, hto ((orT (q := ((decide (n = (32:Int))) || (decide (n = (64:Int))))) c2).trans (orF (q := ((decide (n = (16:Int))) || ((decide (n = (32:Int))) || (decide (n = (64:Int)))))) c1)))] _ _ hk
  rcases tf (decide (n = (32:Int))) with c3 | c3
  ·exact qS [(2, hto (bE c1)), (6, hto (bE c2)), (10, hto (bE c3)), (14, hto (((orT (q := decide (n = (64:Int))) c3).trans (orF (q := ((decide (n = (32:Int))) || (decide (n = (64:Int))))) c2)).trans (orF (q := ((decide (n = (16:Int))) || ((decide (n = (32:Int))) || (decide (n = (64:Int)))))) c1)))] _ _ hk
  exact qS [(2, hto (bE c1)), (6, hto (bE c2)), (10, hto (bE c3)), (14, hto (((orF (q := decide (n = (64:Int))) c3).trans (orF (q := ((decide (n = (32:Int))) || (decide (n = (64:Int))))) c2)).trans (orF (q := ((decide (n = (16:Int))) || ((decide (n = (32:Int))) || (decide (n = (64:Int)))))) c1)))] _ _ hk
 cases hm
 exact A.ret qE
theorem bZ {n : Int} {least : Int} {most : Int} {r : Bool} (hm : gY n least most = some r) : RO Tryz.prog 111 [] [i6 n, i6 least, i6 most] (.bool r) := by
 refine aT Tryz.func111 rfl rfl ?_
 unfold gY at hm
 refine qS [] [(0, i6 n), (1, i6 least), (2, i6 most)] [] ?_
 refine A.mid [(6, .bool ((decide (least ≤ n)) && (decide (n ≤ most))))] [] (fun hk => ?_) ?_
 ·rcases tf (decide (least ≤ n)) with c1 | c1
  ·exact qS [(3, hto (bE c1)), (8, hto (qu (q := decide (n ≤ most)) c1))] _ _ hk
  exact qS [(3, hto (bE c1)), (8, hto (rF (q := decide (n ≤ most)) c1))] _ _ hk
 cases hm
 exact A.ret qE
theorem iu {a : aj} {r : Bool} (hm : gi a = some r) : RO Tryz.prog 61 [] [.agg (k6 a)] (.bool r) := by
 refine aT Tryz.func61 rfl rfl ?_
 unfold gi at hm
 refine qS [(0, .al 61001)] [(1, .ptr 61001 0)] [(61001, .cells 50 (k6 a))] ?_
 refine A.seq ?_
 obtain ⟨J1, hJ1, hm⟩ := bJ hm
 refine A.J (J := J1) (r := r) (fun v_1 => [(1, .ptr 61001 0), (28, .bool v_1)]) (fun v_1 => [(61001, .cells 50 (k6 a))]) ?_ ?_
 ·obtain ⟨af, h1, hm⟩ := aa hm
  rcases ai hm with ⟨c1,hm⟩|⟨c1,hm⟩
  ·refine qGs [(2, hro (bZ h1) fH), (4, hto (bE c1))] [] [(28, .bool true)] ?_
   exact qX true hm
  obtain ⟨ay, h2, hm⟩ := aa hm
  rcases ai hm with ⟨c2,hm⟩|⟨c2,hm⟩
  ·refine qGs [(2, hro (bZ h1) fH), (4, hto (bE c1)), (7, hro (bZ h2) fH), (10, hto (bE c2))] [] [(28, .bool true)] ?_
   exact qX true hm
  rcases ai hm with ⟨c3,hm⟩|⟨c3,hm⟩
  ·refine qGs [(2, hro (bZ h1) fH), (4, hto (bE c1)), (7, hro (bZ h2) fH), (10, hto (bE c2)), (13, hto (lnE bk a.Links)), (16, hto (bE c3))] [] [(28, .bool true)] ?_
   exact qX true hm
  refine qGs [(2, hro (bZ h1) fH), (4, hto (bE c1)), (7, hro (bZ h2) fH), (10, hto (bE c2)), (13, hto (lnE bk a.Links)), (16, hto (bE c3)), (19, hto (lnE aS a.Claims))] [] [(28, .bool (decide ((8:Int) < (a.Claims.length:Int))))] ?_
  exact qX (decide ((8:Int) < (a.Claims.length:Int))) hm
 rintro v_1 hm
 rw [hJ1] at hm
 rcases ai hm with ⟨c4,hm⟩|⟨c4,hm⟩
 ·refine qT c4 ?_
  refine qS [] [(2, .bool false)] [] ?_
  cases hm
  exact A.ret qE
 refine qF c4 ?_
 refine A.skip ?_
 show ah _ _ _ _ _
 refine A.seq ?_
 refine qDs [(2, hto (lnE bk a.Links))] [28] [(30, lf bk a.Links), (31, i6 (a.Links.length:Int)), (32, i6 0)] ?_
 refine A.block ?_
 refine A.bS 30 rfl fun hb1 => ?_
 obtain ⟨B1, K1, hB1, hK1, hm⟩ := bt hm
 refine A.lpI (l := a.Links) (j0 := 0) (B := B1) (K := K1) hm (fun j1 => fun sg => match sg with | () => [(1, .ptr 61001 0), (30, lf bk a.Links), (31, i6 (a.Links.length:Int)), (32, i6 (j1 : Int))]) (fun j1 => fun sg => match sg with | () => [(61001, .cells 50 (k6 a))]) ?_ ?_ ?_
 ·exact qW
 ·rintro j1 e1 Z1 ⟨⟩ hj1 hx1 hm
  rw [hB1] at hm
  refine qDs [] [] [(33, .bool (decide ((j1 : Int) < (a.Links.length:Int))))] ?_
  refine A.seq ?_
  refine qT (ltT hx1) ?_
  refine A.skip ?_
  show ah _ _ _ _ _
  refine A.seq ?_
  refine A.block ?_
  refine qD [(1, hix (ix bk (bf hx1))), (3, .al 61004)] [33] [(4, .ptr 61004 0), (3, i6 (j1 : Int))] [] [(61004, .cells 106 (k5 e1))] ?_
  obtain ⟨J2, hJ2, hm⟩ := bJ hm
  refine A.J (J := J2) (r := r) (fun v_2 => [(1, .ptr 61001 0), (30, lf bk a.Links), (31, i6 (a.Links.length:Int)), (32, i6 (j1 : Int)), (75, .bool v_2)]) (fun v_2 => [(61001, .cells 50 (k6 a))]) ?_ ?_
  ·obtain ⟨aK, h3, hm⟩ := aa hm
   rcases ai hm with ⟨c5,hm⟩|⟨c5,hm⟩
   ·refine qG [(2, hro (bZ h3) fH), (4, hto (bE c5))] [4, 3] [(75, .bool true)] [61004] [] ?_
    exact qX true hm
   rcases ai hm with ⟨c6,hm⟩|⟨c6,hm⟩
   ·refine qG [(2, hro (bZ h3) fH), (4, hto (bE c5)), (11, hto (bE c6))] [4, 3] [(75, .bool true)] [61004] [] ?_
    exact qX true hm
   obtain ⟨bh, h4, hm⟩ := aa hm
   rcases ai hm with ⟨c7,hm⟩|⟨c7,hm⟩
   ·refine qG [(2, hro (bZ h3) fH), (4, hto (bE c5)), (11, hto (bE c6)), (14, hro (bZ h4) fH), (17, hto (bE c7))] [4, 3] [(75, .bool true)] [61004] [] ?_
    exact qX true hm
   obtain ⟨bI, h5, hm⟩ := aa hm
   rcases ai hm with ⟨c8,hm⟩|⟨c8,hm⟩
   ·refine qG [(2, hro (bZ h3) fH), (4, hto (bE c5)), (11, hto (bE c6)), (14, hro (bZ h4) fH), (17, hto (bE c7)), (20, hro (bZ h5) fH), (23, hto (bE c8))] [4, 3] [(75, .bool true)] [61004] [] ?_
    exact qX true hm
   rcases ai hm with ⟨c9,hm⟩|⟨c9,hm⟩
   ·obtain ⟨e_1, h6, hm⟩ := aa hm
    refine qG [(2, hro (bZ h3) fH), (4, hto (bE c5)), (11, hto (bE c6)), (14, hro (bZ h4) fH), (17, hto (bE c7)), (20, hro (bZ h5) fH), (23, hto (bE c8)), (26, hto (bE c9)), (31, hix (ix bk h6))] [4, 3] [(75, .bool (decide (e1.bw ≤ e_1.bw)))] [61004] [] ?_
    exact qX (decide (e1.bw ≤ e_1.bw)) hm
   refine qG [(2, hro (bZ h3) fH), (4, hto (bE c5)), (11, hto (bE c6)), (14, hro (bZ h4) fH), (17, hto (bE c7)), (20, hro (bZ h5) fH), (23, hto (bE c8)), (26, hto (bE c9))] [4, 3] [(75, .bool false)] [61004] [] ?_
   exact qX false hm
  rintro v_2 hm
  rw [hJ2] at hm
  rcases ai hm with ⟨c10,hm⟩|⟨c10,hm⟩
  ·refine qT c10 ?_
   refine qS [] [(2, .bool false)] [] ?_
   cases hm
   exact A.ret qE
  refine qF c10 ?_
  refine A.skip ?_
  show ah _ _ _ _ _
  refine qGs [(0, hto (inc hx1 hb1))] [32, 75] [(32, i6 ((j1 + 1 : Nat) : Int))] ?_
  exact qX () hm
 rintro j1 ⟨⟩ hj1 hl1 hm
 rw [hK1] at hm
 refine qDs [] [] [(33, .bool (decide ((j1 : Int) < (a.Links.length:Int))))] ?_
 refine A.seq ?_
 refine qF (ltF hl1) ?_
 refine A.exit ?_
 show ah _ _ _ _ _
 refine A.seq ?_
 refine qDs [(2, hto (lnE aS a.Claims))] [30, 31, 32, 33] [(78, lf aS a.Claims), (79, i6 (a.Claims.length:Int)), (80, i6 0)] ?_
 refine A.block ?_
 refine A.bS 78 rfl fun hb2 => ?_
 obtain ⟨B2, K2, hB2, hK2, hm⟩ := bt hm
 refine A.lpI (l := a.Claims) (j0 := 0) (B := B2) (K := K2) hm (fun j2 => fun sg => match sg with | () => [(1, .ptr 61001 0), (78, lf aS a.Claims), (79, i6 (a.Claims.length:Int)), (80, i6 (j2 : Int))]) (fun j2 => fun sg => match sg with | () => [(61001, .cells 50 (k6 a))]) ?_ ?_ ?_
 ·exact qW
 ·rintro j2 e2 Z2 ⟨⟩ hj2 hx2 hm
  rw [hB2] at hm
  refine qDs [] [] [(81, .bool (decide ((j2 : Int) < (a.Claims.length:Int))))] ?_
  refine A.seq ?_
  refine qT (ltT hx2) ?_
  refine A.skip ?_
  show ah _ _ _ _ _
  refine A.seq ?_
  refine A.block ?_
  refine qD [(1, hix (ix aS (bf hx2))), (3, .al 61006)] [81] [(6, .ptr 61006 0), (5, i6 (j2 : Int))] [] [(61006, .cells 85 (k4 e2))] ?_
  obtain ⟨J3, hJ3, hm⟩ := bJ hm
  refine A.J (J := J3) (r := r) (fun v_3 => [(1, .ptr 61001 0), (78, lf aS a.Claims), (79, i6 (a.Claims.length:Int)), (80, i6 (j2 : Int)), (116, .bool v_3)]) (fun v_3 => [(61001, .cells 50 (k6 a))]) ?_ ?_
  ·obtain ⟨bV, h7, hm⟩ := aa hm
   rcases ai hm with ⟨c11,hm⟩|⟨c11,hm⟩
   ·refine qG [(2, hro (bZ h7) fH), (4, hto (bE c11))] [6, 5] [(116, .bool true)] [61006] [] ?_
    exact qX true hm
   obtain ⟨cD, h8, hm⟩ := aa hm
   rcases ai hm with ⟨c12,hm⟩|⟨c12,hm⟩
   ·refine qG [(2, hro (bZ h7) fH), (4, hto (bE c11)), (7, hro (bZ h8) fH), (10, hto (bE c12))] [6, 5] [(116, .bool true)] [61006] [] ?_
    exact qX true hm
   obtain ⟨dg, h9, hm⟩ := aa hm
   rcases ai hm with ⟨c13,hm⟩|⟨c13,hm⟩
   ·refine qG [(2, hro (bZ h7) fH), (4, hto (bE c11)), (7, hro (bZ h8) fH), (10, hto (bE c12)), (13, hro (kM h9) aee), (16, hto (bE c13))] [6, 5] [(116, .bool true)] [61006] [] ?_
    exact qX true hm
   rcases ai hm with ⟨c14,hm⟩|⟨c14,hm⟩
   ·obtain ⟨e_2, h10, hm⟩ := aa hm
    refine qG [(2, hro (bZ h7) fH), (4, hto (bE c11)), (7, hro (bZ h8) fH), (10, hto (bE c12)), (13, hro (kM h9) aee), (16, hto (bE c13)), (19, hto (bE c14)), (24, hix (ix aS h10))] [6, 5] [(116, .bool (decide (e2.b9 ≤ e_2.b9)))] [61006] [] ?_
    exact qX (decide (e2.b9 ≤ e_2.b9)) hm
   refine qG [(2, hro (bZ h7) fH), (4, hto (bE c11)), (7, hro (bZ h8) fH), (10, hto (bE c12)), (13, hro (kM h9) aee), (16, hto (bE c13)), (19, hto (bE c14))] [6, 5] [(116, .bool false)] [61006] [] ?_
   exact qX false hm
  rintro v_3 hm
  rw [hJ3] at hm
  rcases ai hm with ⟨c15,hm⟩|⟨c15,hm⟩
  ·refine qT c15 ?_
   refine qS [] [(2, .bool false)] [] ?_
   cases hm
   exact A.ret qE
  refine qF c15 ?_
  refine A.skip ?_
  show ah _ _ _ _ _
  refine qGs [(0, hto (inc hx2 hb2))] [80, 116] [(80, i6 ((j2 + 1 : Nat) : Int))] ?_
  exact qX () hm
 rintro j2 ⟨⟩ hj2 hl2 hm
 rw [hK2] at hm
 refine qDs [] [] [(81, .bool (decide ((j2 : Int) < (a.Claims.length:Int))))] ?_
 refine A.seq ?_
 refine qF (ltF hl2) ?_
 refine A.exit ?_
 show ah _ _ _ _ _
 refine qS [] [(2, .bool true)] [] ?_
 cases hm
 exact A.ret qE
theorem mH {a : List bu} {b : List bu} {r : Bool} (hm : fT a b = some r) : RO Tryz.prog 119 [] [lf bk a, lf bk b] (.bool r) := by
 refine aT Tryz.func119 rfl rfl ?_
 unfold fT at hm
 refine qS [] [(0, lf bk a), (1, lf bk b)] [] ?_
 refine A.seq ?_
 refine qDs [(1, hto (lnE bk a)), (3, hto (lnE bk b))] [] [(11, .bool (!decide ((a.length:Int) = (b.length:Int))))] ?_
 rcases ai hm with ⟨c1,hm⟩|⟨c1,hm⟩
 ·refine qT c1 ?_
  refine qS [] [(4, .bool false)] [] ?_
  cases hm
  exact A.ret qE
 refine qF c1 ?_
 refine A.skip ?_
 show ah _ _ _ _ _
 refine A.seq ?_
 refine qDs [(1, hto (lnE bk a))] [0, 11] [(12, lf bk a), (13, i6 (a.length:Int)), (14, i6 0)] ?_
 refine A.block ?_
 refine A.bS 12 rfl fun hb1 => ?_
 obtain ⟨B1, K1, hB1, hK1, hm⟩ := bt hm
 refine A.lpI (l := a) (j0 := 0) (B := B1) (K := K1) hm (fun j1 => fun sg => match sg with | () => [(1, lf bk b), (12, lf bk a), (13, i6 (a.length:Int)), (14, i6 (j1 : Int))]) (fun j1 => fun sg => match sg with | () => []) ?_ ?_ ?_
 ·exact qW
 ·rintro j1 e1 Z1 ⟨⟩ hj1 hx1 hm
  rw [hB1] at hm
  refine qDs [] [] [(15, .bool (decide ((j1 : Int) < (a.length:Int))))] ?_
  refine A.seq ?_
  refine qT (ltT hx1) ?_
  refine A.skip ?_
  show ah _ _ _ _ _
  refine A.seq ?_
  refine A.block ?_
  refine qD [(1, hix (ix bk (bf hx1))), (3, .al 119006)] [15] [(6, .ptr 119006 0), (5, i6 (j1 : Int))] [] [(119006, .cells 106 (k5 e1))] ?_
  obtain ⟨e_1, h1, hm⟩ := aa hm
  refine qD [(3, hix (ix bk h1)), (5, .sq true 106 (.agg (k5 e1)) (.agg (k5 e_1)) (!(jE e1 e_1)) (fun x y w => aa9 x y _ _ _ _ _ _ w))] [6, 5] [(24, .bool (!(jE e1 e_1)))] [119006] [] ?_
  rcases ai hm with ⟨c2,hm⟩|⟨c2,hm⟩
  ·refine qT c2 ?_
   refine qS [] [(4, .bool false)] [] ?_
   cases hm
   exact A.ret qE
  refine qF c2 ?_
  refine A.skip ?_
  show ah _ _ _ _ _
  refine qGs [(0, hto (inc hx1 hb1))] [14, 24] [(14, i6 ((j1 + 1 : Nat) : Int))] ?_
  exact qX () hm
 rintro j1 ⟨⟩ hj1 hl1 hm
 rw [hK1] at hm
 refine qDs [] [] [(15, .bool (decide ((j1 : Int) < (a.length:Int))))] ?_
 refine A.seq ?_
 refine qF (ltF hl1) ?_
 refine A.exit ?_
 show ah _ _ _ _ _
 refine qS [] [(4, .bool true)] [] ?_
 cases hm
 exact A.ret qE
theorem r9 {a : List bz} {b : List bz} {r : Bool} (hm : fU a b = some r) : RO Tryz.prog 120 [] [lf aS a, lf aS b] (.bool r) := by
 refine aT Tryz.func120 rfl rfl ?_
 unfold fU at hm
 refine qS [] [(0, lf aS a), (1, lf aS b)] [] ?_
 refine A.seq ?_
 refine qDs [(1, hto (lnE aS a)), (3, hto (lnE aS b))] [] [(11, .bool (!decide ((a.length:Int) = (b.length:Int))))] ?_
 rcases ai hm with ⟨c1,hm⟩|⟨c1,hm⟩
 ·refine qT c1 ?_
  refine qS [] [(4, .bool false)] [] ?_
  cases hm
  exact A.ret qE
 refine qF c1 ?_
 refine A.skip ?_
 show ah _ _ _ _ _
 refine A.seq ?_
 refine qDs [(1, hto (lnE aS a))] [0, 11] [(12, lf aS a), (13, i6 (a.length:Int)), (14, i6 0)] ?_
 refine A.block ?_
 refine A.bS 12 rfl fun hb1 => ?_
 obtain ⟨B1, K1, hB1, hK1, hm⟩ := bt hm
 refine A.lpI (l := a) (j0 := 0) (B := B1) (K := K1) hm (fun j1 => fun sg => match sg with | () => [(1, lf aS b), (12, lf aS a), (13, i6 (a.length:Int)), (14, i6 (j1 : Int))]) (fun j1 => fun sg => match sg with | () => []) ?_ ?_ ?_
 ·exact qW
 ·rintro j1 e1 Z1 ⟨⟩ hj1 hx1 hm
  rw [hB1] at hm
  refine qDs [] [] [(15, .bool (decide ((j1 : Int) < (a.length:Int))))] ?_
  refine A.seq ?_
  refine qT (ltT hx1) ?_
  refine A.skip ?_
  show ah _ _ _ _ _
  refine A.seq ?_
  refine A.block ?_
  refine qD [(1, hix (ix aS (bf hx1))), (3, .al 120006)] [15] [(6, .ptr 120006 0), (5, i6 (j1 : Int))] [] [(120006, .cells 85 (k4 e1))] ?_
  obtain ⟨e_1, h1, hm⟩ := aa hm
  refine qD [(3, hix (ix aS h1)), (5, .sq true 85 (.agg (k4 e1)) (.agg (k4 e_1)) (!(gH e1 e_1)) (fun x y w => yR x y _ _ _ _ _ _ w))] [6, 5] [(24, .bool (!(gH e1 e_1)))] [120006] [] ?_
  rcases ai hm with ⟨c2,hm⟩|⟨c2,hm⟩
  ·refine qT c2 ?_
   refine qS [] [(4, .bool false)] [] ?_
   cases hm
   exact A.ret qE
  refine qF c2 ?_
  refine A.skip ?_
  show ah _ _ _ _ _
  refine qGs [(0, hto (inc hx1 hb1))] [14, 24] [(14, i6 ((j1 + 1 : Nat) : Int))] ?_
  exact qX () hm
 rintro j1 ⟨⟩ hj1 hl1 hm
 rw [hK1] at hm
 refine qDs [] [] [(15, .bool (decide ((j1 : Int) < (a.length:Int))))] ?_
 refine A.seq ?_
 refine qF (ltF hl1) ?_
 refine A.exit ?_
 show ah _ _ _ _ _
 refine qS [] [(4, .bool true)] [] ?_
 cases hm
 exact A.ret qE
theorem gA {s1 : List aj} {s2 : List aj} {eq : aj → aj → Option Bool} {aaz : Nat} {ach : List AV} (apA : aM Tryz.prog aaz) (apB : ∀ (y0 : aj) (y1 : aj) (q : Bool), eq y0 y1 = some q → RO Tryz.prog aaz [] ([.agg (k6 y0), .agg (k6 y1)] ++ ach) (.bool q)) {r : Bool} (hm : dh s1 s2 eq = some r) : RO Tryz.prog 124 [] [lf aH s1, lf aH s2, .cfn aaz ach] (.bool r) := by
 refine aT Tryz.func124 rfl rfl ?_
 unfold dh at hm
 refine qS [] [(0, lf aH s1), (1, lf aH s2), (2, .cfn aaz ach)] [] ?_
 refine A.seq ?_
 refine qDs [(1, hto (lnE aH s1)), (3, hto (lnE aH s2))] [] [(14, .bool (!decide ((s1.length:Int) = (s2.length:Int))))] ?_
 rcases ai hm with ⟨c1,hm⟩|⟨c1,hm⟩
 ·refine qT c1 ?_
  refine qS [] [(6, .bool false)] [] ?_
  cases hm
  exact A.ret qE
 refine qF c1 ?_
 refine A.skip ?_
 show ah _ _ _ _ _
 refine A.seq ?_
 refine qDs [(1, hto (lnE aH s1))] [0, 14] [(15, lf aH s1), (16, i6 (s1.length:Int)), (17, i6 0)] ?_
 refine A.block ?_
 refine A.bS 15 rfl fun hb1 => ?_
 obtain ⟨B1, K1, hB1, hK1, hm⟩ := bt hm
 refine A.lpI (l := s1) (j0 := 0) (B := B1) (K := K1) hm (fun j1 => fun sg => match sg with | () => [(1, lf aH s2), (2, .cfn aaz ach), (15, lf aH s1), (16, i6 (s1.length:Int)), (17, i6 (j1 : Int))]) (fun j1 => fun sg => match sg with | () => []) ?_ ?_ ?_
 ·exact qW
 ·rintro j1 e1 Z1 ⟨⟩ hj1 hx1 hm
  rw [hB1] at hm
  refine qDs [] [] [(18, .bool (decide ((j1 : Int) < (s1.length:Int))))] ?_
  refine A.seq ?_
  refine qT (ltT hx1) ?_
  refine A.skip ?_
  show ah _ _ _ _ _
  refine A.seq ?_
  refine A.block ?_
  refine qD [(1, hix (ix aH (bf hx1))), (3, .al 124008)] [18] [(8, .ptr 124008 0), (7, i6 (j1 : Int))] [] [(124008, .cells 50 (k6 e1))] ?_
  obtain ⟨e_1, h1, hm⟩ := aa hm
  refine qD [(2, hix (ix aH h1)), (4, .al 124009)] [7] [(9, .ptr 124009 0)] [] [(124009, .cells 50 (k6 e_1))] ?_
  obtain ⟨af, h2, hm⟩ := aa hm
  refine qD [(3, hrf (apB _ _ _ h2) apA)] [8, 9] [(30, .bool (!af))] [124008, 124009] [] ?_
  rcases ai hm with ⟨c2,hm⟩|⟨c2,hm⟩
  ·refine qT c2 ?_
   refine qS [] [(6, .bool false)] [] ?_
   cases hm
   exact A.ret qE
  refine qF c2 ?_
  refine A.skip ?_
  show ah _ _ _ _ _
  refine qGs [(0, hto (inc hx1 hb1))] [17, 30] [(17, i6 ((j1 + 1 : Nat) : Int))] ?_
  exact qX () hm
 rintro j1 ⟨⟩ hj1 hl1 hm
 rw [hK1] at hm
 refine qDs [] [] [(18, .bool (decide ((j1 : Int) < (s1.length:Int))))] ?_
 refine A.seq ?_
 refine qF (ltF hl1) ?_
 refine A.exit ?_
 show ah _ _ _ _ _
 refine qS [] [(6, .bool true)] [] ?_
 cases hm
 exact A.ret qE
theorem mW {a : aj} {b : aj} {r : Bool} (hm : jG a b = some r) : RO Tryz.prog 66 [] [.agg (k6 a), .agg (k6 b)] (.bool r) := by
 refine aT Tryz.func66 rfl rfl ?_
 unfold jG at hm
 refine qS [(0, .al 66002), (1, .al 66003)] [(2, .ptr 66002 0), (3, .ptr 66003 0)] [(66002, .cells 50 (k6 a)), (66003, .cells 50 (k6 b))] ?_
 rcases ai hm with ⟨c1,hm⟩|⟨c1,hm⟩
 ·rcases ai hm with ⟨c2,hm⟩|⟨c2,hm⟩
  ·rcases ai hm with ⟨c3,hm⟩|⟨c3,hm⟩
   ·obtain ⟨af, h1, hm⟩ := aa hm
    rcases ai hm with ⟨c4,hm⟩|⟨c4,hm⟩
    ·obtain ⟨ay, h2, hm⟩ := aa hm
     refine qS [(5, hto (bE c1)), (12, hto (bE c2)), (19, hto (bE c3)), (24, hro (mH h1) ajj), (26, hto (bE c4)), (31, hro (r9 h2) atw)] [(4, .bool ay)] [] ?_
     cases hm
     exact A.ret qE
    refine qS [(5, hto (bE c1)), (12, hto (bE c2)), (19, hto (bE c3)), (24, hro (mH h1) ajj), (26, hto (bE c4))] [(4, .bool false)] [] ?_
    cases hm
    exact A.ret qE
   refine qS [(5, hto (bE c1)), (12, hto (bE c2)), (19, hto (bE c3))] [(4, .bool false)] [] ?_
   cases hm
   exact A.ret qE
  refine qS [(5, hto (bE c1)), (12, hto (bE c2))] [(4, .bool false)] [] ?_
  cases hm
  exact A.ret qE
 refine qS [(5, hto (bE c1))] [(4, .bool false)] [] ?_
 cases hm
 exact A.ret qE
theorem nN {sa0 : List aQ} (vj : ml az sa0 ≠ []) {r : (List aQ)} (hm : dH sa0 = some r) : bM Tryz.prog 71 [] [lf az sa0] (fun a σ' => a = .own 500007100 ∧ σ' = [(500007100, .slice 78 5 (ml az r) 0 false)]) := by
 refine aT Tryz.func71 rfl rfl ?_
 unfold dH at hm
 refine qS [] [(0, lf az sa0)] [] ?_
 refine A.seq ?_
 refine qDs [(1, .sn false (lf az sa0) (yT vj))] [] [(4, .bool false)] ?_
 refine A.cF rfl rfl ?_
 refine A.skip ?_
 show ah _ _ _ _ _
 obtain ⟨l_1, h1, hm⟩ := aa hm
 refine qS [(0, .al 71005), (2, hap 71507 (ap az (bytes := 40) (by decide) h1))] [(2, .own 71507)] [(71507, .slice 78 5 (ml az l_1) 0 false)] ?_
 refine A.ret ?_
 obtain rfl := some_inj hm
 exact A.fin W0 [.sw 71507 500007100] rfl (by kernel_rfl)
theorem nO  {r : (List aQ)} (hm : jy = some r) : bM Tryz.prog 71 [] [.sl0] (fun a σ' => a = .own 500007100 ∧ σ' = [(500007100, .slice 78 5 (ml az r) 0 false)]) := by
 refine aT Tryz.func71 rfl rfl ?_
 unfold jy at hm
 refine qS [] [(0, .sl0)] [] ?_
 refine A.seq ?_
 refine qDs [(1, .sn false .sl0 (yU))] [] [(4, .bool false)] ?_
 refine A.cF rfl rfl ?_
 refine A.skip ?_
 show ah _ _ _ _ _
 obtain ⟨l_1, h1, hm⟩ := aa hm
 refine qS [(0, .al 71005), (2, hap 71507 (ap az (bytes := 40) (by decide) h1))] [(2, .own 71507)] [(71507, .slice 78 5 (ml az l_1) 0 false)] ?_
 refine A.ret ?_
 obtain rfl := some_inj hm
 exact A.fin W0 [.sw 71507 500007100] rfl (by kernel_rfl)
theorem oD (n c : Nat) (w : World) : Calls Tryz.prog 71 #[.slice none n c] w fun e w' => e = .returned (.slice none 0 0) ∧ w' = w := by
 have q : ∀ (w : World) (a : Option Addr) (n c n' c' : Nat), (binOp .eql 23 (.slice a n c) (.slice none n' c')).run Tryz.prog w = .ok (.bool a.isNone) w := fun w a n c n' c' => Lib.run_eql_slice_nil w _ _ a n c n' c' Tryz.underlying23
 go_enter Tryz.func71, Tryz.ntmps71
 go_wp2
 go_ret
 exact ⟨rfl, rfl⟩
theorem fV {s r : List aQ} (hm : cW s = some r) : bM Tryz.prog 71 [] [.lst false (ml az s)] (fun a σ' => a = .own 500007100 ∧ σ' = [(500007100, .slice 78 5 (ml az r) 0 false)]) := by
 obtain rfl : s = r := by
  unfold cW dH at hm
  obtain ⟨l, h, hm⟩ := aa hm
  have := (aas h).symm
  simp at this; subst this
  exact some_inj hm
 refine wZ oD (fun h => nN h hm) (fun h => ?_) (fun h => h)
 have h0 : s = [] := by cases s with | nil => rfl | cons a b => simp [ml] at h
 subst h0
 exact nO hm
theorem mX {sa0 : List bz} (vj : ml aS sa0 ≠ []) {r : (List bz)} (hm : dD sa0 = some r) : bM Tryz.prog 97 [] [lf aS sa0] (fun a σ' => a = .own 500009700 ∧ σ' = [(500009700, .slice 85 3 (ml aS r) 0 false)]) := by
 refine aT Tryz.func97 rfl rfl ?_
 unfold dD at hm
 refine qS [] [(0, lf aS sa0)] [] ?_
 refine A.seq ?_
 refine qDs [(1, .sn false (lf aS sa0) (yT vj))] [] [(4, .bool false)] ?_
 refine A.cF rfl rfl ?_
 refine A.skip ?_
 show ah _ _ _ _ _
 obtain ⟨l_1, h1, hm⟩ := aa hm
 refine qS [(0, .al 97005), (2, hap 97507 (ap aS (bytes := 24) (by decide) h1))] [(2, .own 97507)] [(97507, .slice 85 3 (ml aS l_1) 0 false)] ?_
 refine A.ret ?_
 obtain rfl := some_inj hm
 exact A.fin W0 [.sw 97507 500009700] rfl (by kernel_rfl)
theorem mY  {r : (List bz)} (hm : iX = some r) : bM Tryz.prog 97 [] [.sl0] (fun a σ' => a = .own 500009700 ∧ σ' = [(500009700, .slice 85 3 (ml aS r) 0 false)]) := by
 refine aT Tryz.func97 rfl rfl ?_
 unfold iX at hm
 refine qS [] [(0, .sl0)] [] ?_
 refine A.seq ?_
 refine qDs [(1, .sn false .sl0 (yU))] [] [(4, .bool false)] ?_
 refine A.cF rfl rfl ?_
 refine A.skip ?_
 show ah _ _ _ _ _
 obtain ⟨l_1, h1, hm⟩ := aa hm
 refine qS [(0, .al 97005), (2, hap 97507 (ap aS (bytes := 24) (by decide) h1))] [(2, .own 97507)] [(97507, .slice 85 3 (ml aS l_1) 0 false)] ?_
 refine A.ret ?_
 obtain rfl := some_inj hm
 exact A.fin W0 [.sw 97507 500009700] rfl (by kernel_rfl)
theorem nU (n c : Nat) (w : World) : Calls Tryz.prog 97 #[.slice none n c] w fun e w' => e = .returned (.slice none 0 0) ∧ w' = w := by
 have q : ∀ (w : World) (a : Option Addr) (n c n' c' : Nat), (binOp .eql 48 (.slice a n c) (.slice none n' c')).run Tryz.prog w = .ok (.bool a.isNone) w := fun w a n c n' c' => Lib.run_eql_slice_nil w _ _ a n c n' c' Tryz.underlying48
 go_enter Tryz.func97, Tryz.ntmps97
 go_wp2
 go_ret
 exact ⟨rfl, rfl⟩
theorem fD {s r : List bz} (hm : cN s = some r) : bM Tryz.prog 97 [] [.lst false (ml aS s)] (fun a σ' => a = .own 500009700 ∧ σ' = [(500009700, .slice 85 3 (ml aS r) 0 false)]) := by
 obtain rfl : s = r := by
  unfold cN dD at hm
  obtain ⟨l, h, hm⟩ := aa hm
  have := (aas h).symm
  simp at this; subst this
  exact some_inj hm
 refine wZ nU (fun h => mX h hm) (fun h => ?_) (fun h => h)
 have h0 : s = [] := by cases s with | nil => rfl | cons a b => simp [ml] at h
 subst h0
 exact mY hm
theorem mZ {sa0 : List bu} (vj : ml bk sa0 ≠ []) {r : (List bu)} (hm : dF sa0 = some r) : bM Tryz.prog 135 [] [lf bk sa0] (fun a σ' => a = .own 500013500 ∧ σ' = [(500013500, .slice 106 3 (ml bk r) 0 false)]) := by
 refine aT Tryz.func135 rfl rfl ?_
 unfold dF at hm
 refine qS [] [(0, lf bk sa0)] [] ?_
 refine A.seq ?_
 refine qDs [(1, .sn false (lf bk sa0) (yT vj))] [] [(4, .bool false)] ?_
 refine A.cF rfl rfl ?_
 refine A.skip ?_
 show ah _ _ _ _ _
 obtain ⟨l_1, h1, hm⟩ := aa hm
 refine qS [(0, .al 135005), (2, hap 135507 (ap bk (bytes := 24) (by decide) h1))] [(2, .own 135507)] [(135507, .slice 106 3 (ml bk l_1) 0 false)] ?_
 refine A.ret ?_
 obtain rfl := some_inj hm
 exact A.fin W0 [.sw 135507 500013500] rfl (by kernel_rfl)
theorem ng  {r : (List bu)} (hm : iY = some r) : bM Tryz.prog 135 [] [.sl0] (fun a σ' => a = .own 500013500 ∧ σ' = [(500013500, .slice 106 3 (ml bk r) 0 false)]) := by
 refine aT Tryz.func135 rfl rfl ?_
 unfold iY at hm
 refine qS [] [(0, .sl0)] [] ?_
 refine A.seq ?_
 refine qDs [(1, .sn false .sl0 (yU))] [] [(4, .bool false)] ?_
 refine A.cF rfl rfl ?_
 refine A.skip ?_
 show ah _ _ _ _ _
 obtain ⟨l_1, h1, hm⟩ := aa hm
 refine qS [(0, .al 135005), (2, hap 135507 (ap bk (bytes := 24) (by decide) h1))] [(2, .own 135507)] [(135507, .slice 106 3 (ml bk l_1) 0 false)] ?_
 refine A.ret ?_
 obtain rfl := some_inj hm
 exact A.fin W0 [.sw 135507 500013500] rfl (by kernel_rfl)
theorem nV (n c : Nat) (w : World) : Calls Tryz.prog 135 #[.slice none n c] w fun e w' => e = .returned (.slice none 0 0) ∧ w' = w := by
 have q : ∀ (w : World) (a : Option Addr) (n c n' c' : Nat), (binOp .eql 47 (.slice a n c) (.slice none n' c')).run Tryz.prog w = .ok (.bool a.isNone) w := fun w a n c n' c' => Lib.run_eql_slice_nil w _ _ a n c n' c' Tryz.underlying47
 go_enter Tryz.func135, Tryz.ntmps135
 go_wp2
 go_ret
 exact ⟨rfl, rfl⟩
theorem iI {s r : List bu} (hm : dy s = some r) : bM Tryz.prog 135 [] [.lst false (ml bk s)] (fun a σ' => a = .own 500013500 ∧ σ' = [(500013500, .slice 106 3 (ml bk r) 0 false)]) := by
 obtain rfl : s = r := by
  unfold dy dF at hm
  obtain ⟨l, h, hm⟩ := aa hm
  have := (aas h).symm
  simp at this; subst this
  exact some_inj hm
 refine wZ nV (fun h => mZ h hm) (fun h => ?_) (fun h => h)
 have h0 : s = [] := by cases s with | nil => rfl | cons a b => simp [ml] at h
 subst h0
 exact ng hm
theorem jS {a : aj} {r : aj} (hm : eD a = some r) : RO Tryz.prog 118 [] [.agg (k6 a)] (.agg (k6 r)) := by
 refine aT Tryz.func118 rfl rfl ?_
 unfold eD at hm
 refine qS [(0, .al 118001), (1, .al 118002)] [(1, .ptr 118001 0), (2, .ptr 118002 0)] [(118001, .cells 50 (k6 a)), (118002, .cells 50 [i6 0, i6 0, .bool false, .aG, .aG])] ?_
 obtain ⟨af, h1, hm⟩ := aa hm
 obtain ⟨ay, h2, hm⟩ := aa hm
 refine qD [(2, hdc [500013500] (iI h1) ajm), (5, hdc [500009700] (fD h2) ahO)] [] [] [118001] [(118001, .cells 50 [i6 a.ak, i6 a.Seq, .bool a.aX, .own 500013500, .own 500009700]), (500013500, .slice 106 3 (ml bk af) 0 false), (500009700, .slice 85 3 (ml aS ay) 0 false)] ?_
 refine qD [] [1] [] [118001, 118002] [(118002, .cells 50 [i6 a.ak, i6 a.Seq, .bool a.aX, .own 500013500, .own 500009700])] ?_
 refine A.ret ?_
 obtain rfl := some_inj hm
 exact A.fin W0 [.fz [500013500, 500009700]] rfl (by kernel_rfl)
theorem vk {a : aj} {r : Bool} (hm : lD a = some r) : RO Tryz.prog 114 [] [.agg (k6 a)] (.bool r) := by
 refine aT Tryz.func114 rfl rfl ?_
 unfold lD at hm
 refine qS [(0, .al 114001)] [(1, .ptr 114001 0)] [(114001, .cells 50 (k6 a))] ?_
 obtain ⟨af, h1, hm⟩ := aa hm
 refine qS [(1, hro (iu h1) aaw)] [(2, .bool (!af))] [] ?_
 cases hm
 exact A.ret qE
theorem fE {d : aF} {r : Int} (hm : eX d = some r) : RO Tryz.prog 62 [] [.agg (k7 d)] (i6 r) := by
 refine aT Tryz.func62 rfl rfl ?_
 unfold eX at hm
 refine qS [(0, .al 62001)] [(1, .ptr 62001 0)] [(62001, .cells 60 (k7 d))] ?_
 refine A.seq ?_
 refine A.block ?_
 refine qDs [(2, hto (lnE aH d.aq))] [] [(4, .bool (decide ((99:Int) < (d.aq.length:Int))))] ?_
 rcases ai hm with ⟨c1,hm⟩|⟨c1,hm⟩
 ·refine qT c1 ?_
  refine qS [] [(2, i6 3)] [] ?_
  cases hm
  exact A.ret qE
 refine qF c1 ?_
 obtain ⟨af, h1, hm⟩ := aa hm
 refine qDs [(2, hro (kI (f_g := 114) (f_c := []) (f_k := atr) (f_f := fun _ _ h => vk h) h1) atq)] [4] [(9, .bool af)] ?_
 rcases ai hm with ⟨c2,hm⟩|⟨c2,hm⟩
 ·refine qT c2 ?_
  refine qS [] [(2, i6 1)] [] ?_
  cases hm
  exact A.ret qE
 refine qF c2 ?_
 refine A.skip ?_
 show ah _ _ _ _ _
 refine A.seq ?_
 refine qDs [(2, hto (lnE aH d.aq))] [9] [(15, i6 (d.aq.length:Int)), (16, i6 0)] ?_
 refine A.block ?_
 refine A.bC 1 0 rfl rfl rfl fun hb1 => ?_
 obtain ⟨B1, K1, hB1, hK1, hm⟩ := bt hm
 refine A.lpI (l := d.aq) (j0 := 0) (B := B1) (K := K1) hm (fun j1 => fun sg => match sg with | () => [(1, .ptr 62001 0), (15, i6 (d.aq.length:Int)), (16, i6 (j1 : Int))]) (fun j1 => fun sg => match sg with | () => [(62001, .cells 60 (k7 d))]) ?_ ?_ ?_
 ·exact qW
 ·rintro j1 e1 Z1 ⟨⟩ hj1 hx1 hm
  rw [hB1] at hm
  refine qDs [] [] [(17, .bool (decide ((j1 : Int) < (d.aq.length:Int))))] ?_
  refine A.seq ?_
  refine qT (ltT hx1) ?_
  refine A.skip ?_
  show ah _ _ _ _ _
  refine A.seq ?_
  refine A.block ?_
  refine qDs [] [17] [(3, i6 (j1 : Int))] ?_
  obtain ⟨J1, hJ1, hm⟩ := bJ hm
  refine A.J (J := J1) (r := r) (fun v_1 => [(1, .ptr 62001 0), (15, i6 (d.aq.length:Int)), (16, i6 (j1 : Int)), (36, .bool v_1)]) (fun v_1 => [(62001, .cells 60 (k7 d))]) ?_ ?_
  ·rcases ai hm with ⟨c3,hm⟩|⟨c3,hm⟩
   ·obtain ⟨e_1, h2, hm⟩ := aa hm
    refine qGs [(2, hto (bE c3)), (7, hix (ix aH h2)), (13, hix (ix aH (bf hx1)))] [3] [(36, .bool (decide (e1.ak ≤ e_1.ak)))] ?_
    exact qX (decide (e1.ak ≤ e_1.ak)) hm
   refine qGs [(2, hto (bE c3))] [3] [(36, .bool false)] ?_
   exact qX false hm
  rintro v_1 hm
  rw [hJ1] at hm
  rcases ai hm with ⟨c4,hm⟩|⟨c4,hm⟩
  ·refine qT c4 ?_
   refine qS [] [(2, i6 25)] [] ?_
   cases hm
   exact A.ret qE
  refine qF c4 ?_
  refine A.skip ?_
  show ah _ _ _ _ _
  refine qGs [(0, hto (inc hx1 hb1))] [16, 36] [(16, i6 ((j1 + 1 : Nat) : Int))] ?_
  exact qX () hm
 rintro j1 ⟨⟩ hj1 hl1 hm
 rw [hK1] at hm
 refine qDs [] [] [(17, .bool (decide ((j1 : Int) < (d.aq.length:Int))))] ?_
 refine A.seq ?_
 refine qF (ltF hl1) ?_
 refine A.exit ?_
 show ah _ _ _ _ _
 refine qS [] [(2, i6 0)] [] ?_
 cases hm
 exact A.ret qE
theorem xd {a : aF} {b : aF} {r : Bool} (hm : qH a b = some r) : RO Tryz.prog 68 [] [.agg (k7 a), .agg (k7 b)] (.bool r) := by
 refine aT Tryz.func68 rfl rfl ?_
 unfold qH at hm
 refine qS [(0, .al 68002), (1, .al 68003)] [(2, .ptr 68002 0), (3, .ptr 68003 0)] [(68002, .cells 60 (k7 a)), (68003, .cells 60 (k7 b))] ?_
 obtain ⟨af, h1, hm⟩ := aa hm
 refine qS [(4, hro (gA (aaz := 66) (ach := []) (apA := aeb) (apB := fun _ _ _ h => mW h) h1) aty)] [(4, .bool af)] [] ?_
 cases hm
 exact A.ret qE
theorem si {d : aF} {aJ : Int} {r : aj × Bool} (hm : jA d aJ = some r) : RO Tryz.prog 65 [] [.agg (k7 d), i6 aJ] (.tup [.agg (k6 r.1), .bool r.2]) := by
 refine aT Tryz.func65 rfl rfl ?_
 unfold jA at hm
 refine qS [(0, .al 65002), (1, .al 65004)] [(1, i6 aJ), (2, .ptr 65002 0), (4, .ptr 65004 0)] [(65002, .cells 60 (k7 d)), (65004, .cells 50 [i6 0, i6 0, .bool false, .aG, .aG])] ?_
 refine A.seq ?_
 refine qD [(2, hto (lnE aH d.aq))] [2] [(9, lf aH d.aq), (10, i6 (d.aq.length:Int)), (11, i6 0)] [65002] [] ?_
 refine A.block ?_
 refine A.bS 9 rfl fun hb1 => ?_
 obtain ⟨B1, K1, hB1, hK1, hm⟩ := bt hm
 refine A.lpI (l := d.aq) (j0 := 0) (B := B1) (K := K1) hm (fun j1 => fun sg => match sg with | () => [(1, i6 aJ), (4, .ptr 65004 0), (9, lf aH d.aq), (10, i6 (d.aq.length:Int)), (11, i6 (j1 : Int))]) (fun j1 => fun sg => match sg with | () => [(65004, .cells 50 [i6 0, i6 0, .bool false, .aG, .aG])]) ?_ ?_ ?_
 ·exact qW
 ·rintro j1 e1 Z1 ⟨⟩ hj1 hx1 hm
  rw [hB1] at hm
  refine qDs [] [] [(12, .bool (decide ((j1 : Int) < (d.aq.length:Int))))] ?_
  refine A.seq ?_
  refine qT (ltT hx1) ?_
  refine A.skip ?_
  show ah _ _ _ _ _
  refine A.seq ?_
  refine A.block ?_
  refine qD [(0, hix (ix aH (bf hx1))), (2, .al 65007)] [12] [(7, .ptr 65007 0)] [] [(65007, .cells 50 (k6 e1))] ?_
  refine qDs [] [] [(18, .bool (decide (e1.ak = aJ)))] ?_
  rcases ai hm with ⟨c1,hm⟩|⟨c1,hm⟩
  ·refine qT c1 ?_
   obtain ⟨af, h1, hm⟩ := aa hm
   refine qS [(1, hro (jS h1) abz)] [(4, .ptr 65004 0), (5, .bool true)] [(65004, .cells 50 (k6 af))] ?_
   cases hm
   exact A.ret qE
  refine qF c1 ?_
  refine A.skip ?_
  show ah _ _ _ _ _
  refine qG [(0, hto (inc hx1 hb1))] [11, 7, 18] [(11, i6 ((j1 + 1 : Nat) : Int))] [65007] [] ?_
  exact qX () hm
 rintro j1 ⟨⟩ hj1 hl1 hm
 rw [hK1] at hm
 refine qDs [] [] [(12, .bool (decide ((j1 : Int) < (d.aq.length:Int))))] ?_
 refine A.seq ?_
 refine qF (ltF hl1) ?_
 refine A.exit ?_
 show ah _ _ _ _ _
 refine qDs [] [1, 9, 10, 11, 12] [(5, .bool false)] ?_
 cases hm
 exact A.ret qE
end Go.Proofs.YtpmifmdidfgpdaaGreat
