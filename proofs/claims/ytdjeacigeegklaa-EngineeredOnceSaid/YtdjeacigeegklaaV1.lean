/- The iY of ee of the program. No condition but bL aY stand in each. -/
import Derived.Test.YtdjeacigeegklaaDA
namespace Go.Proofs.Ytdjeacigeegklaa
open Go
set_option maxRecDepth 100000
set_option linter.all false
theorem gK {n : Int} {r : Bool} (hm : mh n = some r) : RO Try.prog 57 [] [i6 n] (.bool r) := by
 refine bO Try.func57 rfl rfl ?_
 unfold mh at hm
 refine qS [] [(0, i6 n)] [] ?_
 refine A.mid [(2, .bool ((decide ((1:Int) ≤ n)) && (decide (n ≤ (1000:Int)))))] [] (fun hk => ?_) ?_
 ·rcases tf (decide ((1:Int) ≤ n)) with c1 | c1
  ·exact qS [(2, hto (bE c1)), (6, hto (mM (q := decide (n ≤ (1000:Int))) c1))] _ _ hk
  exact qS [(2, hto (bE c1)), (6, hto (oD (q := decide (n ≤ (1000:Int))) c1))] _ _ hk
 cases hm
 exact A.ret qE
theorem o4 {t : aa} {ra1 : Int} {r : Bool} (hm : lQ t ra1 = some r) : RO Try.prog 58 [] [.agg (k2 t), i6 ra1] (.bool r) := by
 refine bO Try.func58 rfl rfl ?_
 unfold lQ at hm
 refine qS [(0, .al 58002)] [(1, i6 ra1), (2, .ptr 58002 0)] [(58002, .cells 28 (k2 t))] ?_
 refine A.seq ?_
 refine qDs [] [] [(5, i6 0)] ?_
 refine A.block ?_
 refine A.bC 2 0 rfl rfl rfl fun hb1 => ?_
 obtain ⟨B1, K1, hB1, hK1, hm⟩ := bN hm
 refine A.lpI (l := t.aC) (j0 := 0) (B := B1) (K := K1) hm (fun j1 => fun sg => match sg with | () => [(1, i6 ra1), (2, .ptr 58002 0), (5, i6 (j1 : Int))]) (fun j1 => fun sg => match sg with | () => [(58002, .cells 28 (k2 t))]) ?_ ?_ ?_
 ·exact qW
 ·rintro j1 e1 Z1 ⟨⟩ hj1 hx1 hm
  rw [hB1] at hm
  refine A.seq ?_
  refine qDs [(3, hto (lnE aL t.aC))] [] [(10, .bool (decide ((j1 : Int) < (t.aC.length:Int))))] ?_
  refine qT (ltT hx1) ?_
  refine A.skip ?_
  show aj _ _ _ _ _
  refine A.seq ?_
  refine A.block ?_
  refine qDs [(3, hix (ix aL (b8 hx1)))] [10] [(20, .bool (decide (e1.ID = ra1)))] ?_
  rcases aA hm with ⟨c1,hm⟩|⟨c1,hm⟩
  ·refine qT c1 ?_
   refine qS [] [(4, .bool true)] [] ?_
   cases hm
   exact A.ret qE
  refine qF c1 ?_
  refine A.skip ?_
  show aj _ _ _ _ _
  refine qGs [(1, hto (inc hx1 hb1))] [5, 20] [(5, i6 ((j1 + 1 : Nat) : Int))] ?_
  exact qX () hm
 rintro j1 ⟨⟩ hj1 hl1 hm
 rw [hK1] at hm
 refine A.seq ?_
 refine qDs [(3, hto (lnE aL t.aC))] [] [(10, .bool (decide ((j1 : Int) < (t.aC.length:Int))))] ?_
 refine qF (ltF hl1) ?_
 refine A.exit ?_
 show aj _ _ _ _ _
 refine qS [] [(4, .bool false)] [] ?_
 cases hm
 exact A.ret qE
theorem xd {t : aa} {cI : Int} {fD : Int} {r : Int × Bool} (hm : lP t cI fD = some r) : RO Try.prog 70 [] [.agg (k2 t), i6 cI, i6 fD] (.tup [i6 r.1, .bool r.2]) := by
 refine bO Try.func70 rfl rfl ?_
 unfold lP at hm
 refine qS [(0, .al 70003)] [(1, i6 cI), (2, i6 fD), (3, .ptr 70003 0)] [(70003, .cells 28 (k2 t))] ?_
 refine A.seq ?_
 refine qDs [] [] [(8, i6 0)] ?_
 refine A.block ?_
 refine A.bC 3 1 rfl rfl rfl fun hb1 => ?_
 obtain ⟨B1, K1, hB1, hK1, hm⟩ := bN hm
 refine A.lpI (l := t.Links) (j0 := 0) (B := B1) (K := K1) hm (fun j1 => fun sg => match sg with | () => [(1, i6 cI), (2, i6 fD), (3, .ptr 70003 0), (8, i6 (j1 : Int))]) (fun j1 => fun sg => match sg with | () => [(70003, .cells 28 (k2 t))]) ?_ ?_ ?_
 ·exact qW
 ·rintro j1 e1 Z1 ⟨⟩ hj1 hx1 hm
  rw [hB1] at hm
  refine A.seq ?_
  refine qDs [(3, hto (lnE b9 t.Links))] [] [(14, .bool (decide ((j1 : Int) < (t.Links.length:Int))))] ?_
  refine qT (ltT hx1) ?_
  refine A.skip ?_
  show aj _ _ _ _ _
  refine A.seq ?_
  refine A.block ?_
  refine qD [(3, hix (ix b9 (b8 hx1))), (5, .al 70009)] [14] [(9, .ptr 70009 0)] [] [(70009, .cells 80 (k1 e1))] ?_
  refine A.seq ?_
  refine A.mid [(1, i6 cI), (2, i6 fD), (3, .ptr 70003 0), (8, i6 (j1 : Int)), (9, .ptr 70009 0), (31, .bool ((decide (e1.A = cI)) && (decide (e1.B = fD))))] [(70003, .cells 28 (k2 t)), (70009, .cells 80 (k1 e1))] (fun hk => ?_) ?_
  ·rcases tf (decide (e1.A = cI)) with c1 | c1
   ·exact qS [(4, hto (bE c1)), (9, hto (mM (q := decide (e1.B = fD)) c1))] _ _ hk
   exact qS [(4, hto (bE c1)), (9, hto (oD (q := decide (e1.B = fD)) c1))] _ _ hk
  rcases aA hm with ⟨c2,hm⟩|⟨c2,hm⟩
  ·refine qT c2 ?_
   refine qS [] [(6, i6 e1.jL), (7, .bool true)] [] ?_
   cases hm
   exact A.ret qE
  refine qF c2 ?_
  refine A.skip ?_
  show aj _ _ _ _ _
  refine A.mid [(1, i6 cI), (2, i6 fD), (3, .ptr 70003 0), (8, i6 (j1 : Int)), (9, .ptr 70009 0), (43, .bool ((decide (e1.B = cI)) && (decide (e1.A = fD))))] [(70003, .cells 28 (k2 t)), (70009, .cells 80 (k1 e1))] (fun hk => ?_) ?_
  ·rcases tf (decide (e1.B = cI)) with c3 | c3
   ·exact qS [(4, hto (bE c3)), (9, hto (mM (q := decide (e1.A = fD)) c3))] _ _ hk
   exact qS [(4, hto (bE c3)), (9, hto (oD (q := decide (e1.A = fD)) c3))] _ _ hk
  rcases aA hm with ⟨c4,hm⟩|⟨c4,hm⟩
  ·refine qT c4 ?_
   refine qS [] [(6, i6 e1.jM), (7, .bool true)] [] ?_
   cases hm
   exact A.ret qE
  refine qF c4 ?_
  refine A.skip ?_
  show aj _ _ _ _ _
  refine qG [(1, hto (inc hx1 hb1))] [8, 9, 43] [(8, i6 ((j1 + 1 : Nat) : Int))] [70009] [] ?_
  exact qX () hm
 rintro j1 ⟨⟩ hj1 hl1 hm
 rw [hK1] at hm
 refine A.seq ?_
 refine qDs [(3, hto (lnE b9 t.Links))] [] [(14, .bool (decide ((j1 : Int) < (t.Links.length:Int))))] ?_
 refine qF (ltF hl1) ?_
 refine A.exit ?_
 show aj _ _ _ _ _
 refine qS [] [(6, i6 0), (7, .bool false)] [] ?_
 cases hm
 exact A.ret qE
theorem ru {t : aa} {r : Int} (hm : jE t = some r) : RO Try.prog 32 [] [.agg (k2 t)] (i6 r) := by
 refine bO Try.func32 rfl rfl ?_
 unfold jE at hm
 refine qS [(0, .al 32001)] [(1, .ptr 32001 0)] [(32001, .cells 28 (k2 t))] ?_
 refine A.seq ?_
 refine A.mid [(1, .ptr 32001 0), (21, .bool ((decide ((24:Int) < (t.aC.length:Int))) || (decide ((60:Int) < (t.Links.length:Int)))))] [(32001, .cells 28 (k2 t))] (fun hk => ?_) ?_
 ·rcases tf (decide ((24:Int) < (t.aC.length:Int))) with c1 | c1
  ·exact qS [(2, hto (lnE aL t.aC)), (4, hto (bE c1)), (9, hto (orT (q := decide ((60:Int) < (t.Links.length:Int))) c1))] _ _ hk
  exact qS [(2, hto (lnE aL t.aC)), (4, hto (bE c1)), (7, hto (lnE b9 t.Links)), (9, hto (orF (q := decide ((60:Int) < (t.Links.length:Int))) c1))] _ _ hk
 rcases aA hm with ⟨c2,hm⟩|⟨c2,hm⟩
 ·refine qT c2 ?_
  refine qS [] [(2, i6 3)] [] ?_
  cases hm
  exact A.ret qE
 refine qF c2 ?_
 refine A.skip ?_
 show aj _ _ _ _ _
 refine A.seq ?_
 refine qDs [] [21] [(3, i6 0)] ?_
 refine A.block ?_
 refine A.bC 1 0 rfl rfl rfl fun hb1 => ?_
 obtain ⟨B1, K1, hB1, hK1, hm⟩ := bN hm
 refine A.lpI (l := t.aC) (j0 := 0) (B := B1) (K := K1) hm (fun j1 => fun sg => match sg with | () => [(1, .ptr 32001 0), (3, i6 (j1 : Int))]) (fun j1 => fun sg => match sg with | () => [(32001, .cells 28 (k2 t))]) ?_ ?_ ?_
 ·exact qW
 ·rintro j1 e1 Z1 ⟨⟩ hj1 hx1 hm
  rw [hB1] at hm
  refine A.seq ?_
  refine qDs [(3, hto (lnE aL t.aC))] [] [(26, .bool (decide ((j1 : Int) < (t.aC.length:Int))))] ?_
  refine qT (ltT hx1) ?_
  refine A.skip ?_
  show aj _ _ _ _ _
  refine A.seq ?_
  refine A.block ?_
  refine A.mid [(1, .ptr 32001 0), (3, i6 (j1 : Int)), (44, .bool ((decide (e1.ID < (1:Int))) || (decide ((99:Int) < e1.ID))))] [(32001, .cells 28 (k2 t))] (fun hk => ?_) ?_
  ·rcases tf (decide (e1.ID < (1:Int))) with c3 | c3
   ·exact qS [(3, hix (ix aL (b8 hx1))), (7, hto (bE c3)), (15, hto (orT (q := decide ((99:Int) < e1.ID)) c3))] _ _ hk
   exact qS [(3, hix (ix aL (b8 hx1))), (7, hto (bE c3)), (11, hix (ix aL (b8 hx1))), (15, hto (orF (q := decide ((99:Int) < e1.ID)) c3))] _ _ hk
  rcases aA hm with ⟨c4,hm⟩|⟨c4,hm⟩
  ·refine qT c4 ?_
   refine qS [] [(2, i6 2)] [] ?_
   cases hm
   exact A.ret qE
  refine qF c4 ?_
  refine A.skip ?_
  show aj _ _ _ _ _
  refine qGs [(1, hto (inc hx1 hb1))] [3, 44] [(3, i6 ((j1 + 1 : Nat) : Int))] ?_
  exact qX () hm
 rintro j1 ⟨⟩ hj1 hl1 hm
 rw [hK1] at hm
 refine A.seq ?_
 refine qDs [(3, hto (lnE aL t.aC))] [] [(26, .bool (decide ((j1 : Int) < (t.aC.length:Int))))] ?_
 refine qF (ltF hl1) ?_
 refine A.exit ?_
 show aj _ _ _ _ _
 refine A.seq ?_
 refine qDs [] [3, 26] [(4, i6 1)] ?_
 refine A.block ?_
 refine A.bC 1 0 rfl rfl rfl fun hb2 => ?_
 obtain ⟨B2, K2, hB2, hK2, hm⟩ := bN hm
 refine A.lpI (l := t.aC) (j0 := 1) (B := B2) (K := K2) hm (fun j2 => fun sg => match sg with | () => [(1, .ptr 32001 0), (4, i6 (j2 : Int))]) (fun j2 => fun sg => match sg with | () => [(32001, .cells 28 (k2 t))]) ?_ ?_ ?_
 ·exact qW
 ·rintro j2 e2 Z2 ⟨⟩ hj2 hx2 hm
  rw [hB2] at hm
  refine A.seq ?_
  refine qDs [(3, hto (lnE aL t.aC))] [] [(49, .bool (decide ((j2 : Int) < (t.aC.length:Int))))] ?_
  refine qT (ltT hx2) ?_
  refine A.skip ?_
  show aj _ _ _ _ _
  refine A.seq ?_
  refine A.block ?_
  obtain ⟨e_1, h1, hm⟩ := af hm
  refine qDs [(4, hix (ix aL h1)), (10, hix (ix aL (b8 hx2)))] [49] [(65, .bool (decide (e2.ID ≤ e_1.ID)))] ?_
  rcases aA hm with ⟨c5,hm⟩|⟨c5,hm⟩
  ·refine qT c5 ?_
   refine qS [] [(2, i6 25)] [] ?_
   cases hm
   exact A.ret qE
  refine qF c5 ?_
  refine A.skip ?_
  show aj _ _ _ _ _
  refine qGs [(1, hto (inc hx2 hb2))] [4, 65] [(4, i6 ((j2 + 1 : Nat) : Int))] ?_
  exact qX () hm
 rintro j2 ⟨⟩ hj2 hl2 hm
 rw [hK2] at hm
 refine A.seq ?_
 refine qDs [(3, hto (lnE aL t.aC))] [] [(49, .bool (decide ((j2 : Int) < (t.aC.length:Int))))] ?_
 refine qF (ltF hl2) ?_
 refine A.exit ?_
 show aj _ _ _ _ _
 refine A.seq ?_
 refine qDs [] [4, 49] [(5, i6 0)] ?_
 refine A.block ?_
 refine A.bC 1 1 rfl rfl rfl fun hb3 => ?_
 obtain ⟨B3, K3, hB3, hK3, hm⟩ := bN hm
 refine A.lpI (l := t.Links) (j0 := 0) (B := B3) (K := K3) hm (fun j3 => fun sg => match sg with | () => [(1, .ptr 32001 0), (5, i6 (j3 : Int))]) (fun j3 => fun sg => match sg with | () => [(32001, .cells 28 (k2 t))]) ?_ ?_ ?_
 ·exact qW
 ·rintro j3 e3 Z3 ⟨⟩ hj3 hx3 hm
  rw [hB3] at hm
  refine A.seq ?_
  refine qDs [(3, hto (lnE b9 t.Links))] [] [(70, .bool (decide ((j3 : Int) < (t.Links.length:Int))))] ?_
  refine qT (ltT hx3) ?_
  refine A.skip ?_
  show aj _ _ _ _ _
  refine A.seq ?_
  refine A.block ?_
  refine qD [(3, hix (ix b9 (b8 hx3))), (5, .al 32006)] [70] [(6, .ptr 32006 0)] [] [(32006, .cells 80 (k1 e3))] ?_
  obtain ⟨J1, hJ1, hm⟩ := cD hm
  refine A.J (J := J1) (r := r) (fun v_1 => [(1, .ptr 32001 0), (5, i6 (j3 : Int)), (97, .bool v_1)]) (fun v_1 => [(32001, .cells 28 (k2 t))]) ?_ ?_
  ·obtain ⟨ay, h2, hm⟩ := af hm
   rcases aA hm with ⟨c6,hm⟩|⟨c6,hm⟩
   ·refine qG [(2, hro (gK h2) xb), (4, hto (bE c6))] [6] [(97, .bool true)] [32006] [] ?_
    exact qX true hm
   obtain ⟨aV, h3, hm⟩ := af hm
   rcases aA hm with ⟨c7,hm⟩|⟨c7,hm⟩
   ·refine qG [(2, hro (gK h2) xb), (4, hto (bE c6)), (7, hro (gK h3) xb), (10, hto (bE c7))] [6] [(97, .bool true)] [32006] [] ?_
    exact qX true hm
   rcases aA hm with ⟨c8,hm⟩|⟨c8,hm⟩
   ·refine qG [(2, hro (gK h2) xb), (4, hto (bE c6)), (7, hro (gK h3) xb), (10, hto (bE c7)), (15, hto (bE c8))] [6] [(97, .bool true)] [32006] [] ?_
    exact qX true hm
   refine qG [(2, hro (gK h2) xb), (4, hto (bE c6)), (7, hro (gK h3) xb), (10, hto (bE c7)), (15, hto (bE c8))] [6] [(97, .bool (decide ((1000:Int) < e3.lC)))] [32006] [] ?_
   exact qX (decide ((1000:Int) < e3.lC)) hm
  rintro v_1 hm
  rw [hJ1] at hm
  rcases aA hm with ⟨c9,hm⟩|⟨c9,hm⟩
  ·refine qT c9 ?_
   refine qS [] [(2, i6 2)] [] ?_
   cases hm
   exact A.ret qE
  refine qF c9 ?_
  refine A.skip ?_
  show aj _ _ _ _ _
  refine qGs [(1, hto (inc hx3 hb3))] [5, 97] [(5, i6 ((j3 + 1 : Nat) : Int))] ?_
  exact qX () hm
 rintro j3 ⟨⟩ hj3 hl3 hm
 rw [hK3] at hm
 refine A.seq ?_
 refine qDs [(3, hto (lnE b9 t.Links))] [] [(70, .bool (decide ((j3 : Int) < (t.Links.length:Int))))] ?_
 refine qF (ltF hl3) ?_
 refine A.exit ?_
 show aj _ _ _ _ _
 refine A.seq ?_
 refine qDs [] [5, 70] [(7, i6 0)] ?_
 refine A.block ?_
 refine A.bC 1 1 rfl rfl rfl fun hb4 => ?_
 obtain ⟨B4, K4, hB4, hK4, hm⟩ := bN hm
 refine A.lpI (l := t.Links) (j0 := 0) (B := B4) (K := K4) hm (fun j4 => fun sg => match sg with | () => [(1, .ptr 32001 0), (7, i6 (j4 : Int))]) (fun j4 => fun sg => match sg with | () => [(32001, .cells 28 (k2 t))]) ?_ ?_ ?_
 ·exact qW
 ·rintro j4 e4 Z4 ⟨⟩ hj4 hx4 hm
  rw [hB4] at hm
  refine A.seq ?_
  refine qDs [(3, hto (lnE b9 t.Links))] [] [(102, .bool (decide ((j4 : Int) < (t.Links.length:Int))))] ?_
  refine qT (ltT hx4) ?_
  refine A.skip ?_
  show aj _ _ _ _ _
  refine A.seq ?_
  refine A.block ?_
  obtain ⟨J2, hJ2, hm⟩ := cD hm
  refine A.J (J := J2) (r := r) (fun v_2 => [(1, .ptr 32001 0), (7, i6 (j4 : Int)), (124, .bool v_2)]) (fun v_2 => [(32001, .cells 28 (k2 t))]) ?_ ?_
  ·obtain ⟨bu, h4, hm⟩ := af hm
   rcases aA hm with ⟨c10,hm⟩|⟨c10,hm⟩
   ·refine qGs [(4, hix (ix b9 (b8 hx4))), (7, hro (o4 h4) afv), (9, hto (bE c10))] [102] [(124, .bool true)] ?_
    exact qX true hm
   obtain ⟨aK, h5, hm⟩ := af hm
   refine qGs [(4, hix (ix b9 (b8 hx4))), (7, hro (o4 h4) afv), (9, hto (bE c10)), (14, hix (ix b9 (b8 hx4))), (17, hro (o4 h5) afv)] [102] [(124, .bool (!aK))] ?_
   exact qX (!aK) hm
  rintro v_2 hm
  rw [hJ2] at hm
  rcases aA hm with ⟨c11,hm⟩|⟨c11,hm⟩
  ·refine qT c11 ?_
   refine qS [] [(2, i6 4)] [] ?_
   cases hm
   exact A.ret qE
  refine qF c11 ?_
  refine A.skip ?_
  show aj _ _ _ _ _
  refine qGs [(1, hto (inc hx4 hb4))] [7, 124] [(7, i6 ((j4 + 1 : Nat) : Int))] ?_
  exact qX () hm
 rintro j4 ⟨⟩ hj4 hl4 hm
 rw [hK4] at hm
 refine A.seq ?_
 refine qDs [(3, hto (lnE b9 t.Links))] [] [(102, .bool (decide ((j4 : Int) < (t.Links.length:Int))))] ?_
 refine qF (ltF hl4) ?_
 refine A.exit ?_
 show aj _ _ _ _ _
 refine A.seq ?_
 refine qDs [] [7, 102] [(8, i6 0)] ?_
 refine A.block ?_
 refine A.bC 1 1 rfl rfl rfl fun hb5 => ?_
 obtain ⟨B5, K5, hB5, hK5, hm⟩ := bN hm
 refine A.lpI (l := t.Links) (j0 := 0) (B := B5) (K := K5) hm (fun j5 => fun sg => match sg with | () => [(1, .ptr 32001 0), (8, i6 (j5 : Int))]) (fun j5 => fun sg => match sg with | () => [(32001, .cells 28 (k2 t))]) ?_ ?_ ?_
 ·exact qW
 ·rintro j5 e5 Z5 ⟨⟩ hj5 hx5 hm
  rw [hB5] at hm
  refine A.seq ?_
  refine qDs [(3, hto (lnE b9 t.Links))] [] [(129, .bool (decide ((j5 : Int) < (t.Links.length:Int))))] ?_
  refine qT (ltT hx5) ?_
  refine A.skip ?_
  show aj _ _ _ _ _
  refine A.seq ?_
  refine A.block ?_
  refine qDs [(3, hix (ix b9 (b8 hx5))), (9, hix (ix b9 (b8 hx5)))] [129] [(144, .bool (decide (e5.B ≤ e5.A)))] ?_
  rcases aA hm with ⟨c12,hm⟩|⟨c12,hm⟩
  ·refine qT c12 ?_
   refine qS [] [(2, i6 8)] [] ?_
   cases hm
   exact A.ret qE
  refine qF c12 ?_
  refine A.skip ?_
  show aj _ _ _ _ _
  refine qGs [(1, hto (inc hx5 hb5))] [8, 144] [(8, i6 ((j5 + 1 : Nat) : Int))] ?_
  exact qX () hm
 rintro j5 ⟨⟩ hj5 hl5 hm
 rw [hK5] at hm
 refine A.seq ?_
 refine qDs [(3, hto (lnE b9 t.Links))] [] [(129, .bool (decide ((j5 : Int) < (t.Links.length:Int))))] ?_
 refine qF (ltF hl5) ?_
 refine A.exit ?_
 show aj _ _ _ _ _
 refine A.seq ?_
 refine qDs [] [8, 129] [(9, i6 1)] ?_
 refine A.block ?_
 refine A.bC 1 1 rfl rfl rfl fun hb6 => ?_
 obtain ⟨B6, K6, hB6, hK6, hm⟩ := bN hm
 refine A.lpI (l := t.Links) (j0 := 1) (B := B6) (K := K6) hm (fun j6 => fun sg => match sg with | () => [(1, .ptr 32001 0), (9, i6 (j6 : Int))]) (fun j6 => fun sg => match sg with | () => [(32001, .cells 28 (k2 t))]) ?_ ?_ ?_
 ·exact qW
 ·rintro j6 e6 Z6 ⟨⟩ hj6 hx6 hm
  rw [hB6] at hm
  refine A.seq ?_
  refine qDs [(3, hto (lnE b9 t.Links))] [] [(149, .bool (decide ((j6 : Int) < (t.Links.length:Int))))] ?_
  refine qT (ltT hx6) ?_
  refine A.skip ?_
  show aj _ _ _ _ _
  refine A.seq ?_
  refine A.block ?_
  obtain ⟨e_2, h6, hm⟩ := af hm
  refine qD [(4, hix (ix b9 h6)), (9, hix (ix b9 (b8 hx6))), (11, .al 32010), (12, .al 32011)] [149] [(10, .ptr 32010 0), (11, .ptr 32011 0)] [] [(32010, .cells 80 (k1 e_2)), (32011, .cells 80 (k1 e6))] ?_
  refine A.mid [(1, .ptr 32001 0), (9, i6 (j6 : Int)), (181, .bool ((decide (e6.A < e_2.A)) || ((decide (e_2.A = e6.A)) && (decide (e6.B ≤ e_2.B)))))] [(32001, .cells 28 (k2 t))] (fun hk => ?_) ?_
  ·rcases tf (decide (e6.A < e_2.A)) with c13 | c13
   ·exact qS [(5, hto (bE c13)), (18, hto (orT (q := ((decide (e_2.A = e6.A)) && (decide (e6.B ≤ e_2.B)))) c13))] _ _ hk
   rcases tf (decide (e_2.A = e6.A)) with c14 | c14
   ·exact qS [(5, hto (bE c13)), (11, hto (bE c14)), (18, hto ((mM (q := decide (e6.B ≤ e_2.B)) c14).trans (orF (q := ((decide (e_2.A = e6.A)) && (decide (e6.B ≤ e_2.B)))) c13)))] _ _ hk
   exact qS [(5, hto (bE c13)), (11, hto (bE c14)), (18, hto ((oD (q := decide (e6.B ≤ e_2.B)) c14).trans (orF (q := ((decide (e_2.A = e6.A)) && (decide (e6.B ≤ e_2.B)))) c13)))] _ _ hk
  rcases aA hm with ⟨c15,hm⟩|⟨c15,hm⟩
  ·refine qT c15 ?_
   refine qS [] [(2, i6 25)] [] ?_
   cases hm
   exact A.ret qE
  refine qF c15 ?_
  refine A.skip ?_
  show aj _ _ _ _ _
  refine qGs [(1, hto (inc hx6 hb6))] [9, 181] [(9, i6 ((j6 + 1 : Nat) : Int))] ?_
  exact qX () hm
 rintro j6 ⟨⟩ hj6 hl6 hm
 rw [hK6] at hm
 refine A.seq ?_
 refine qDs [(3, hto (lnE b9 t.Links))] [] [(149, .bool (decide ((j6 : Int) < (t.Links.length:Int))))] ?_
 refine qF (ltF hl6) ?_
 refine A.exit ?_
 show aj _ _ _ _ _
 refine qS [] [(2, i6 0)] [] ?_
 cases hm
 exact A.ret qE
end Go.Proofs.Ytdjeacigeegklaa
