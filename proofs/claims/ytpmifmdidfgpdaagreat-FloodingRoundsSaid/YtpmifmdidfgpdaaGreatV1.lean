/- The eC of cr of the program. No condition but bT bB stand in each. -/
import Derived.Test.YtpmifmdidfgpdaaGreatDA
namespace Go.Proofs.YtpmifmdidfgpdaaGreat
open Go
set_option maxRecDepth 100000
set_option linter.all false
theorem ic {n : Int} {r : Bool} (hm : n5 n = some r) : RO Tryz.prog 136 [] [i6 n] (.bool r) := by
 refine aT Tryz.func136 rfl rfl ?_
 unfold n5 at hm
 refine qS [] [(0, i6 n)] [] ?_
 refine A.mid [(2, .bool ((decide ((1:Int) ≤ n)) && (decide (n ≤ (1000:Int)))))] [] (fun hk => ?_) ?_
 ·rcases tf (decide ((1:Int) ≤ n)) with c1 | c1
  ·exact qS [(2, hto (bE c1)), (6, hto (qu (q := decide (n ≤ (1000:Int))) c1))] _ _ hk
  exact qS [(2, hto (bE c1)), (6, hto (rF (q := decide (n ≤ (1000:Int))) c1))] _ _ hk
 cases hm
 exact A.ret qE
theorem oB {t : aD} {ra1 : Int} {r : Bool} (hm : lN t ra1 = some r) : RO Tryz.prog 137 [] [.agg (k2 t), i6 ra1] (.bool r) := by
 refine aT Tryz.func137 rfl rfl ?_
 unfold lN at hm
 refine qS [(0, .al 137002)] [(1, i6 ra1), (2, .ptr 137002 0)] [(137002, .cells 44 (k2 t))] ?_
 refine A.seq ?_
 refine qDs [] [] [(5, i6 0)] ?_
 refine A.block ?_
 refine A.bC 2 0 rfl rfl rfl fun hb1 => ?_
 obtain ⟨B1, K1, hB1, hK1, hm⟩ := bt hm
 refine A.lpI (l := t.aI) (j0 := 0) (B := B1) (K := K1) hm (fun j1 => fun sg => match sg with | () => [(1, i6 ra1), (2, .ptr 137002 0), (5, i6 (j1 : Int))]) (fun j1 => fun sg => match sg with | () => [(137002, .cells 44 (k2 t))]) ?_ ?_ ?_
 ·exact qW
 ·rintro j1 e1 Z1 ⟨⟩ hj1 hx1 hm
  rw [hB1] at hm
  refine A.seq ?_
  refine qDs [(3, hto (lnE aU t.aI))] [] [(10, .bool (decide ((j1 : Int) < (t.aI.length:Int))))] ?_
  refine qT (ltT hx1) ?_
  refine A.skip ?_
  show ah _ _ _ _ _
  refine A.seq ?_
  refine A.block ?_
  refine qDs [(3, hix (ix aU (bf hx1)))] [10] [(20, .bool (decide (e1.ID = ra1)))] ?_
  rcases ai hm with ⟨c1,hm⟩|⟨c1,hm⟩
  ·refine qT c1 ?_
   refine qS [] [(4, .bool true)] [] ?_
   cases hm
   exact A.ret qE
  refine qF c1 ?_
  refine A.skip ?_
  show ah _ _ _ _ _
  refine qGs [(1, hto (inc hx1 hb1))] [5, 20] [(5, i6 ((j1 + 1 : Nat) : Int))] ?_
  exact qX () hm
 rintro j1 ⟨⟩ hj1 hl1 hm
 rw [hK1] at hm
 refine A.seq ?_
 refine qDs [(3, hto (lnE aU t.aI))] [] [(10, .bool (decide ((j1 : Int) < (t.aI.length:Int))))] ?_
 refine qF (ltF hl1) ?_
 refine A.exit ?_
 show ah _ _ _ _ _
 refine qS [] [(4, .bool false)] [] ?_
 cases hm
 exact A.ret qE
theorem pL {t : aD} {dX : Int} {ji : Int} {r : Int × Bool} (hm : jF t dX ji = some r) : RO Tryz.prog 90 [] [.agg (k2 t), i6 dX, i6 ji] (.tup [i6 r.1, .bool r.2]) := by
 refine aT Tryz.func90 rfl rfl ?_
 unfold jF at hm
 refine qS [(0, .al 90003)] [(1, i6 dX), (2, i6 ji), (3, .ptr 90003 0)] [(90003, .cells 44 (k2 t))] ?_
 refine A.seq ?_
 refine qDs [] [] [(8, i6 0)] ?_
 refine A.block ?_
 refine A.bC 3 1 rfl rfl rfl fun hb1 => ?_
 obtain ⟨B1, K1, hB1, hK1, hm⟩ := bt hm
 refine A.lpI (l := t.Links) (j0 := 0) (B := B1) (K := K1) hm (fun j1 => fun sg => match sg with | () => [(1, i6 dX), (2, i6 ji), (3, .ptr 90003 0), (8, i6 (j1 : Int))]) (fun j1 => fun sg => match sg with | () => [(90003, .cells 44 (k2 t))]) ?_ ?_ ?_
 ·exact qW
 ·rintro j1 e1 Z1 ⟨⟩ hj1 hx1 hm
  rw [hB1] at hm
  refine A.seq ?_
  refine qDs [(3, hto (lnE az t.Links))] [] [(14, .bool (decide ((j1 : Int) < (t.Links.length:Int))))] ?_
  refine qT (ltT hx1) ?_
  refine A.skip ?_
  show ah _ _ _ _ _
  refine A.seq ?_
  refine A.block ?_
  refine qD [(3, hix (ix az (bf hx1))), (5, .al 90009)] [14] [(9, .ptr 90009 0)] [] [(90009, .cells 78 (k1 e1))] ?_
  refine A.seq ?_
  refine A.mid [(1, i6 dX), (2, i6 ji), (3, .ptr 90003 0), (8, i6 (j1 : Int)), (9, .ptr 90009 0), (31, .bool ((decide (e1.A = dX)) && (decide (e1.B = ji))))] [(90003, .cells 44 (k2 t)), (90009, .cells 78 (k1 e1))] (fun hk => ?_) ?_
  ·rcases tf (decide (e1.A = dX)) with c1 | c1
   ·exact qS [(4, hto (bE c1)), (9, hto (qu (q := decide (e1.B = ji)) c1))] _ _ hk
   exact qS [(4, hto (bE c1)), (9, hto (rF (q := decide (e1.B = ji)) c1))] _ _ hk
  rcases ai hm with ⟨c2,hm⟩|⟨c2,hm⟩
  ·refine qT c2 ?_
   refine qS [] [(6, i6 e1.ja), (7, .bool true)] [] ?_
   cases hm
   exact A.ret qE
  refine qF c2 ?_
  refine A.skip ?_
  show ah _ _ _ _ _
  refine A.mid [(1, i6 dX), (2, i6 ji), (3, .ptr 90003 0), (8, i6 (j1 : Int)), (9, .ptr 90009 0), (43, .bool ((decide (e1.B = dX)) && (decide (e1.A = ji))))] [(90003, .cells 44 (k2 t)), (90009, .cells 78 (k1 e1))] (fun hk => ?_) ?_
  ·rcases tf (decide (e1.B = dX)) with c3 | c3
   ·exact qS [(4, hto (bE c3)), (9, hto (qu (q := decide (e1.A = ji)) c3))] _ _ hk
   exact qS [(4, hto (bE c3)), (9, hto (rF (q := decide (e1.A = ji)) c3))] _ _ hk
  rcases ai hm with ⟨c4,hm⟩|⟨c4,hm⟩
  ·refine qT c4 ?_
   refine qS [] [(6, i6 e1.iF), (7, .bool true)] [] ?_
   cases hm
   exact A.ret qE
  refine qF c4 ?_
  refine A.skip ?_
  show ah _ _ _ _ _
  refine qG [(1, hto (inc hx1 hb1))] [8, 9, 43] [(8, i6 ((j1 + 1 : Nat) : Int))] [90009] [] ?_
  exact qX () hm
 rintro j1 ⟨⟩ hj1 hl1 hm
 rw [hK1] at hm
 refine A.seq ?_
 refine qDs [(3, hto (lnE az t.Links))] [] [(14, .bool (decide ((j1 : Int) < (t.Links.length:Int))))] ?_
 refine qF (ltF hl1) ?_
 refine A.exit ?_
 show ah _ _ _ _ _
 refine qS [] [(6, i6 0), (7, .bool false)] [] ?_
 cases hm
 exact A.ret qE
theorem iO {t : aD} {r : Int} (hm : iw t = some r) : RO Tryz.prog 83 [] [.agg (k2 t)] (i6 r) := by
 refine aT Tryz.func83 rfl rfl ?_
 unfold iw at hm
 refine qS [(0, .al 83001)] [(1, .ptr 83001 0)] [(83001, .cells 44 (k2 t))] ?_
 refine A.seq ?_
 refine A.mid [(1, .ptr 83001 0), (21, .bool ((decide ((24:Int) < (t.aI.length:Int))) || (decide ((60:Int) < (t.Links.length:Int)))))] [(83001, .cells 44 (k2 t))] (fun hk => ?_) ?_
 ·rcases tf (decide ((24:Int) < (t.aI.length:Int))) with c1 | c1
  ·exact qS [(2, hto (lnE aU t.aI)), (4, hto (bE c1)), (9, hto (orT (q := decide ((60:Int) < (t.Links.length:Int))) c1))] _ _ hk
  exact qS [(2, hto (lnE aU t.aI)), (4, hto (bE c1)), (7, hto (lnE az t.Links)), (9, hto (orF (q := decide ((60:Int) < (t.Links.length:Int))) c1))] _ _ hk
 rcases ai hm with ⟨c2,hm⟩|⟨c2,hm⟩
 ·refine qT c2 ?_
  refine qS [] [(2, i6 3)] [] ?_
  cases hm
  exact A.ret qE
 refine qF c2 ?_
 refine A.skip ?_
 show ah _ _ _ _ _
 refine A.seq ?_
 refine qDs [] [21] [(3, i6 0)] ?_
 refine A.block ?_
 refine A.bC 1 0 rfl rfl rfl fun hb1 => ?_
 obtain ⟨B1, K1, hB1, hK1, hm⟩ := bt hm
 refine A.lpI (l := t.aI) (j0 := 0) (B := B1) (K := K1) hm (fun j1 => fun sg => match sg with | () => [(1, .ptr 83001 0), (3, i6 (j1 : Int))]) (fun j1 => fun sg => match sg with | () => [(83001, .cells 44 (k2 t))]) ?_ ?_ ?_
 ·exact qW
 ·rintro j1 e1 Z1 ⟨⟩ hj1 hx1 hm
  rw [hB1] at hm
  refine A.seq ?_
  refine qDs [(3, hto (lnE aU t.aI))] [] [(26, .bool (decide ((j1 : Int) < (t.aI.length:Int))))] ?_
  refine qT (ltT hx1) ?_
  refine A.skip ?_
  show ah _ _ _ _ _
  refine A.seq ?_
  refine A.block ?_
  refine A.mid [(1, .ptr 83001 0), (3, i6 (j1 : Int)), (44, .bool ((decide (e1.ID < (1:Int))) || (decide ((99:Int) < e1.ID))))] [(83001, .cells 44 (k2 t))] (fun hk => ?_) ?_
  ·rcases tf (decide (e1.ID < (1:Int))) with c3 | c3
   ·exact qS [(3, hix (ix aU (bf hx1))), (7, hto (bE c3)), (15, hto (orT (q := decide ((99:Int) < e1.ID)) c3))] _ _ hk
   exact qS [(3, hix (ix aU (bf hx1))), (7, hto (bE c3)), (11, hix (ix aU (bf hx1))), (15, hto (orF (q := decide ((99:Int) < e1.ID)) c3))] _ _ hk
  rcases ai hm with ⟨c4,hm⟩|⟨c4,hm⟩
  ·refine qT c4 ?_
   refine qS [] [(2, i6 2)] [] ?_
   cases hm
   exact A.ret qE
  refine qF c4 ?_
  refine A.skip ?_
  show ah _ _ _ _ _
  refine qGs [(1, hto (inc hx1 hb1))] [3, 44] [(3, i6 ((j1 + 1 : Nat) : Int))] ?_
  exact qX () hm
 rintro j1 ⟨⟩ hj1 hl1 hm
 rw [hK1] at hm
 refine A.seq ?_
 refine qDs [(3, hto (lnE aU t.aI))] [] [(26, .bool (decide ((j1 : Int) < (t.aI.length:Int))))] ?_
 refine qF (ltF hl1) ?_
 refine A.exit ?_
 show ah _ _ _ _ _
 refine A.seq ?_
 refine qDs [] [3, 26] [(4, i6 1)] ?_
 refine A.block ?_
 refine A.bC 1 0 rfl rfl rfl fun hb2 => ?_
 obtain ⟨B2, K2, hB2, hK2, hm⟩ := bt hm
 refine A.lpI (l := t.aI) (j0 := 1) (B := B2) (K := K2) hm (fun j2 => fun sg => match sg with | () => [(1, .ptr 83001 0), (4, i6 (j2 : Int))]) (fun j2 => fun sg => match sg with | () => [(83001, .cells 44 (k2 t))]) ?_ ?_ ?_
 ·exact qW
 ·rintro j2 e2 Z2 ⟨⟩ hj2 hx2 hm
  rw [hB2] at hm
  refine A.seq ?_
  refine qDs [(3, hto (lnE aU t.aI))] [] [(49, .bool (decide ((j2 : Int) < (t.aI.length:Int))))] ?_
  refine qT (ltT hx2) ?_
  refine A.skip ?_
  show ah _ _ _ _ _
  refine A.seq ?_
  refine A.block ?_
  obtain ⟨e_1, h1, hm⟩ := aa hm
  refine qDs [(4, hix (ix aU h1)), (10, hix (ix aU (bf hx2)))] [49] [(65, .bool (decide (e2.ID ≤ e_1.ID)))] ?_
  rcases ai hm with ⟨c5,hm⟩|⟨c5,hm⟩
  ·refine qT c5 ?_
   refine qS [] [(2, i6 25)] [] ?_
   cases hm
   exact A.ret qE
  refine qF c5 ?_
  refine A.skip ?_
  show ah _ _ _ _ _
  refine qGs [(1, hto (inc hx2 hb2))] [4, 65] [(4, i6 ((j2 + 1 : Nat) : Int))] ?_
  exact qX () hm
 rintro j2 ⟨⟩ hj2 hl2 hm
 rw [hK2] at hm
 refine A.seq ?_
 refine qDs [(3, hto (lnE aU t.aI))] [] [(49, .bool (decide ((j2 : Int) < (t.aI.length:Int))))] ?_
 refine qF (ltF hl2) ?_
 refine A.exit ?_
 show ah _ _ _ _ _
 refine A.seq ?_
 refine qDs [] [4, 49] [(5, i6 0)] ?_
 refine A.block ?_
 refine A.bC 1 1 rfl rfl rfl fun hb3 => ?_
 obtain ⟨B3, K3, hB3, hK3, hm⟩ := bt hm
 refine A.lpI (l := t.Links) (j0 := 0) (B := B3) (K := K3) hm (fun j3 => fun sg => match sg with | () => [(1, .ptr 83001 0), (5, i6 (j3 : Int))]) (fun j3 => fun sg => match sg with | () => [(83001, .cells 44 (k2 t))]) ?_ ?_ ?_
 ·exact qW
 ·rintro j3 e3 Z3 ⟨⟩ hj3 hx3 hm
  rw [hB3] at hm
  refine A.seq ?_
  refine qDs [(3, hto (lnE az t.Links))] [] [(70, .bool (decide ((j3 : Int) < (t.Links.length:Int))))] ?_
  refine qT (ltT hx3) ?_
  refine A.skip ?_
  show ah _ _ _ _ _
  refine A.seq ?_
  refine A.block ?_
  refine qD [(3, hix (ix az (bf hx3))), (5, .al 83006)] [70] [(6, .ptr 83006 0)] [] [(83006, .cells 78 (k1 e3))] ?_
  obtain ⟨J1, hJ1, hm⟩ := bJ hm
  refine A.J (J := J1) (r := r) (fun v_1 => [(1, .ptr 83001 0), (5, i6 (j3 : Int)), (97, .bool v_1)]) (fun v_1 => [(83001, .cells 44 (k2 t))]) ?_ ?_
  ·obtain ⟨af, h2, hm⟩ := aa hm
   rcases ai hm with ⟨c6,hm⟩|⟨c6,hm⟩
   ·refine qG [(2, hro (ic h2) vR), (4, hto (bE c6))] [6] [(97, .bool true)] [83006] [] ?_
    exact qX true hm
   obtain ⟨ay, h3, hm⟩ := aa hm
   rcases ai hm with ⟨c7,hm⟩|⟨c7,hm⟩
   ·refine qG [(2, hro (ic h2) vR), (4, hto (bE c6)), (7, hro (ic h3) vR), (10, hto (bE c7))] [6] [(97, .bool true)] [83006] [] ?_
    exact qX true hm
   rcases ai hm with ⟨c8,hm⟩|⟨c8,hm⟩
   ·refine qG [(2, hro (ic h2) vR), (4, hto (bE c6)), (7, hro (ic h3) vR), (10, hto (bE c7)), (15, hto (bE c8))] [6] [(97, .bool true)] [83006] [] ?_
    exact qX true hm
   refine qG [(2, hro (ic h2) vR), (4, hto (bE c6)), (7, hro (ic h3) vR), (10, hto (bE c7)), (15, hto (bE c8))] [6] [(97, .bool (decide ((1000:Int) < e3.bY)))] [83006] [] ?_
   exact qX (decide ((1000:Int) < e3.bY)) hm
  rintro v_1 hm
  rw [hJ1] at hm
  rcases ai hm with ⟨c9,hm⟩|⟨c9,hm⟩
  ·refine qT c9 ?_
   refine qS [] [(2, i6 2)] [] ?_
   cases hm
   exact A.ret qE
  refine qF c9 ?_
  refine A.skip ?_
  show ah _ _ _ _ _
  refine qGs [(1, hto (inc hx3 hb3))] [5, 97] [(5, i6 ((j3 + 1 : Nat) : Int))] ?_
  exact qX () hm
 rintro j3 ⟨⟩ hj3 hl3 hm
 rw [hK3] at hm
 refine A.seq ?_
 refine qDs [(3, hto (lnE az t.Links))] [] [(70, .bool (decide ((j3 : Int) < (t.Links.length:Int))))] ?_
 refine qF (ltF hl3) ?_
 refine A.exit ?_
 show ah _ _ _ _ _
 refine A.seq ?_
 refine qDs [] [5, 70] [(7, i6 0)] ?_
 refine A.block ?_
 refine A.bC 1 1 rfl rfl rfl fun hb4 => ?_
 obtain ⟨B4, K4, hB4, hK4, hm⟩ := bt hm
 refine A.lpI (l := t.Links) (j0 := 0) (B := B4) (K := K4) hm (fun j4 => fun sg => match sg with | () => [(1, .ptr 83001 0), (7, i6 (j4 : Int))]) (fun j4 => fun sg => match sg with | () => [(83001, .cells 44 (k2 t))]) ?_ ?_ ?_
 ·exact qW
 ·rintro j4 e4 Z4 ⟨⟩ hj4 hx4 hm
  rw [hB4] at hm
  refine A.seq ?_
  refine qDs [(3, hto (lnE az t.Links))] [] [(102, .bool (decide ((j4 : Int) < (t.Links.length:Int))))] ?_
  refine qT (ltT hx4) ?_
  refine A.skip ?_
  show ah _ _ _ _ _
  refine A.seq ?_
  refine A.block ?_
  obtain ⟨J2, hJ2, hm⟩ := bJ hm
  refine A.J (J := J2) (r := r) (fun v_2 => [(1, .ptr 83001 0), (7, i6 (j4 : Int)), (124, .bool v_2)]) (fun v_2 => [(83001, .cells 44 (k2 t))]) ?_ ?_
  ·obtain ⟨aK, h4, hm⟩ := aa hm
   rcases ai hm with ⟨c10,hm⟩|⟨c10,hm⟩
   ·refine qGs [(4, hix (ix az (bf hx4))), (7, hro (oB h4) abB), (9, hto (bE c10))] [102] [(124, .bool true)] ?_
    exact qX true hm
   obtain ⟨bh, h5, hm⟩ := aa hm
   refine qGs [(4, hix (ix az (bf hx4))), (7, hro (oB h4) abB), (9, hto (bE c10)), (14, hix (ix az (bf hx4))), (17, hro (oB h5) abB)] [102] [(124, .bool (!bh))] ?_
   exact qX (!bh) hm
  rintro v_2 hm
  rw [hJ2] at hm
  rcases ai hm with ⟨c11,hm⟩|⟨c11,hm⟩
  ·refine qT c11 ?_
   refine qS [] [(2, i6 4)] [] ?_
   cases hm
   exact A.ret qE
  refine qF c11 ?_
  refine A.skip ?_
  show ah _ _ _ _ _
  refine qGs [(1, hto (inc hx4 hb4))] [7, 124] [(7, i6 ((j4 + 1 : Nat) : Int))] ?_
  exact qX () hm
 rintro j4 ⟨⟩ hj4 hl4 hm
 rw [hK4] at hm
 refine A.seq ?_
 refine qDs [(3, hto (lnE az t.Links))] [] [(102, .bool (decide ((j4 : Int) < (t.Links.length:Int))))] ?_
 refine qF (ltF hl4) ?_
 refine A.exit ?_
 show ah _ _ _ _ _
 refine A.seq ?_
 refine qDs [] [7, 102] [(8, i6 0)] ?_
 refine A.block ?_
 refine A.bC 1 1 rfl rfl rfl fun hb5 => ?_
 obtain ⟨B5, K5, hB5, hK5, hm⟩ := bt hm
 refine A.lpI (l := t.Links) (j0 := 0) (B := B5) (K := K5) hm (fun j5 => fun sg => match sg with | () => [(1, .ptr 83001 0), (8, i6 (j5 : Int))]) (fun j5 => fun sg => match sg with | () => [(83001, .cells 44 (k2 t))]) ?_ ?_ ?_
 ·exact qW
 ·rintro j5 e5 Z5 ⟨⟩ hj5 hx5 hm
  rw [hB5] at hm
  refine A.seq ?_
  refine qDs [(3, hto (lnE az t.Links))] [] [(129, .bool (decide ((j5 : Int) < (t.Links.length:Int))))] ?_
  refine qT (ltT hx5) ?_
  refine A.skip ?_
  show ah _ _ _ _ _
  refine A.seq ?_
  refine A.block ?_
  refine qDs [(3, hix (ix az (bf hx5))), (9, hix (ix az (bf hx5)))] [129] [(144, .bool (decide (e5.B ≤ e5.A)))] ?_
  rcases ai hm with ⟨c12,hm⟩|⟨c12,hm⟩
  ·refine qT c12 ?_
   refine qS [] [(2, i6 8)] [] ?_
   cases hm
   exact A.ret qE
  refine qF c12 ?_
  refine A.skip ?_
  show ah _ _ _ _ _
  refine qGs [(1, hto (inc hx5 hb5))] [8, 144] [(8, i6 ((j5 + 1 : Nat) : Int))] ?_
  exact qX () hm
 rintro j5 ⟨⟩ hj5 hl5 hm
 rw [hK5] at hm
 refine A.seq ?_
 refine qDs [(3, hto (lnE az t.Links))] [] [(129, .bool (decide ((j5 : Int) < (t.Links.length:Int))))] ?_
 refine qF (ltF hl5) ?_
 refine A.exit ?_
 show ah _ _ _ _ _
 refine A.seq ?_
 refine qDs [] [8, 129] [(9, i6 1)] ?_
 refine A.block ?_
 refine A.bC 1 1 rfl rfl rfl fun hb6 => ?_
 obtain ⟨B6, K6, hB6, hK6, hm⟩ := bt hm
 refine A.lpI (l := t.Links) (j0 := 1) (B := B6) (K := K6) hm (fun j6 => fun sg => match sg with | () => [(1, .ptr 83001 0), (9, i6 (j6 : Int))]) (fun j6 => fun sg => match sg with | () => [(83001, .cells 44 (k2 t))]) ?_ ?_ ?_
 ·exact qW
 ·rintro j6 e6 Z6 ⟨⟩ hj6 hx6 hm
  rw [hB6] at hm
  refine A.seq ?_
  refine qDs [(3, hto (lnE az t.Links))] [] [(149, .bool (decide ((j6 : Int) < (t.Links.length:Int))))] ?_
  refine qT (ltT hx6) ?_
  refine A.skip ?_
  show ah _ _ _ _ _
  refine A.seq ?_
  refine A.block ?_
  obtain ⟨e_2, h6, hm⟩ := aa hm
  refine qD [(4, hix (ix az h6)), (9, hix (ix az (bf hx6))), (11, .al 83010), (12, .al 83011)] [149] [(10, .ptr 83010 0), (11, .ptr 83011 0)] [] [(83010, .cells 78 (k1 e_2)), (83011, .cells 78 (k1 e6))] ?_
  refine A.mid [(1, .ptr 83001 0), (9, i6 (j6 : Int)), (181, .bool ((decide (e6.A < e_2.A)) || ((decide (e_2.A = e6.A)) && (decide (e6.B ≤ e_2.B)))))] [(83001, .cells 44 (k2 t))] (fun hk => ?_) ?_
  ·rcases tf (decide (e6.A < e_2.A)) with c13 | c13
   ·exact qS [(5, hto (bE c13)), (18, hto (orT (q := ((decide (e_2.A = e6.A)) && (decide (e6.B ≤ e_2.B)))) c13))] _ _ hk
   rcases tf (decide (e_2.A = e6.A)) with c14 | c14
   ·exact qS [(5, hto (bE c13)), (11, hto (bE c14)), (18, hto ((qu (q := decide (e6.B ≤ e_2.B)) c14).trans (orF (q := ((decide (e_2.A = e6.A)) && (decide (e6.B ≤ e_2.B)))) c13)))] _ _ hk
   exact qS [(5, hto (bE c13)), (11, hto (bE c14)), (18, hto ((rF (q := decide (e6.B ≤ e_2.B)) c14).trans (orF (q := ((decide (e_2.A = e6.A)) && (decide (e6.B ≤ e_2.B)))) c13)))] _ _ hk
  rcases ai hm with ⟨c15,hm⟩|⟨c15,hm⟩
  ·refine qT c15 ?_
   refine qS [] [(2, i6 25)] [] ?_
   cases hm
   exact A.ret qE
  refine qF c15 ?_
  refine A.skip ?_
  show ah _ _ _ _ _
  refine qGs [(1, hto (inc hx6 hb6))] [9, 181] [(9, i6 ((j6 + 1 : Nat) : Int))] ?_
  exact qX () hm
 rintro j6 ⟨⟩ hj6 hl6 hm
 rw [hK6] at hm
 refine A.seq ?_
 refine qDs [(3, hto (lnE az t.Links))] [] [(149, .bool (decide ((j6 : Int) < (t.Links.length:Int))))] ?_
 refine qF (ltF hl6) ?_
 refine A.exit ?_
 show ah _ _ _ _ _
 refine qS [] [(2, i6 0)] [] ?_
 cases hm
 exact A.ret qE
theorem yx {xa0 : Int} {n : Int} {r : Int} (hm : rG xa0 n = some r) : RO Tryz.prog 53 [] [i6 xa0, i6 n] (i6 r) := by
 refine aT Tryz.func53 rfl rfl ?_
 unfold rG at hm
 refine qS [] [(0, i6 xa0), (1, i6 n)] [] ?_
 refine A.seq ?_
 refine qDs [] [] [(6, .bool (decide (n < (1:Int))))] ?_
 rcases ai hm with ⟨c1,hm⟩|⟨c1,hm⟩
 ·refine qT c1 ?_
  refine qS [] [(4, i6 0)] [] ?_
  cases hm
  exact A.ret qE
 refine qF c1 ?_
 refine A.skip ?_
 show ah _ _ _ _ _
 obtain ⟨h1, hm⟩ := eV hm
 refine qDs [(2, .qr n (of_decide_eq_true h1))] [0, 6] [(0, i6 (Int.tmod xa0 n))] ?_
 obtain ⟨J1, hJ1, hm⟩ := bJ hm
 refine A.J (J := J1) (r := r) (fun af => [(0, i6 af)]) (fun af => []) ?_ ?_
 ·refine qDs [] [] [(11, .bool (decide (Int.tmod xa0 n < (0:Int))))] ?_
  rcases ai hm with ⟨c2,hm⟩|⟨c2,hm⟩
  ·refine qT c2 ?_
   refine qR [] [(0, i6 (w64 ((Int.tmod xa0 n) + n)))] [] ?_
   exact qX (w64 ((Int.tmod xa0 n) + n)) hm
  refine qF c2 ?_
  refine A.skip ?_
  exact qX (Int.tmod xa0 n) hm
 rintro af hm
 rw [hJ1] at hm
 refine qS [] [(4, i6 af)] [] ?_
 cases hm
 exact A.ret qE
theorem y8 {t : aR} {r : Int × aR} (hm : nt t = some r) : bM Tryz.prog 95 [(900000074, .cells 74 (k3 t))] [.ptr 900000074 0] (fun a σ' => a = i6 r.1 ∧ σ' = [(900000074, .cells 74 (k3 r.2))]) := by
 refine aT Tryz.func95 rfl rfl ?_
 unfold nt at hm
 refine qS [] [(0, .ptr 900000074 0)] [(900000074, .cells 74 (k3 t))] ?_
 refine A.seq ?_
 refine qDs [(8, hto (lnE bL t.L))] [] [(12, .bool (decide ((t.L.length:Int) ≤ t.At)))] ?_
 rcases ai hm with ⟨c1,hm⟩|⟨c1,hm⟩
 ·refine qT c1 ?_
  refine qDs [] [0, 12] [(2, i6 0)] ?_
  cases hm
  exact A.ret qE
 refine qF c1 ?_
 refine A.skip ?_
 show ah _ _ _ _ _
 refine qD [] [12] [] [900000074] [(900000074, .cells 74 [lf bL t.L, i6 (w64 (t.At + (1:Int)))])] ?_
 obtain ⟨e_1, h1, hm⟩ := aa hm
 refine qDs [(9, hix (ix bL h1))] [0] [(2, i6 e_1)] ?_
 cases hm
 exact A.ret qE
theorem bO {t : aR} {n : Int} {r : Int × aR} (hm : bU t n = some r) : bM Tryz.prog 47 [(900000074, .cells 74 (k3 t))] [.ptr 900000074 0, i6 n] (fun a σ' => a = i6 r.1 ∧ σ' = [(900000074, .cells 74 (k3 r.2))]) := by
 refine aT Tryz.func47 rfl rfl ?_
 unfold bU at hm
 refine qS [] [(0, .ptr 900000074 0), (1, i6 n)] [(900000074, .cells 74 (k3 t))] ?_
 obtain ⟨af, h1, hm⟩ := aa hm
 obtain ⟨ay, h2, hm⟩ := aa hm
 refine qS [(1, hdc [] (y8 h1) ck95), (3, hro (yx h2) apl)] [(4, i6 ay)] [(900000074, .cells 74 (k3 af.2))] ?_
 cases hm
 exact A.ret qE
theorem eN {t : aR} {low : Int} {high : Int} {r : Int × aR} (hm : dQ t low high = some r) : bM Tryz.prog 24 [(900000074, .cells 74 (k3 t))] [.ptr 900000074 0, i6 low, i6 high] (fun a σ' => a = i6 r.1 ∧ σ' = [(900000074, .cells 74 (k3 r.2))]) := by
 refine aT Tryz.func24 rfl rfl ?_
 unfold dQ at hm
 refine qS [] [(0, .ptr 900000074 0), (1, i6 low), (2, i6 high)] [(900000074, .cells 74 (k3 t))] ?_
 obtain ⟨af, h1, hm⟩ := aa hm
 refine qS [(6, hdc [] (bO h1) iN)] [(6, i6 (w64 (low + af.1)))] [(900000074, .cells 74 (k3 af.2))] ?_
 cases hm
 exact A.ret qE
end Go.Proofs.YtpmifmdidfgpdaaGreat
