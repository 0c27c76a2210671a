/- The jt of dK of the program. No condition but bR bw stand in each. -/
import Derived.Test.YtmfehenfoepkfaaDA
namespace Go.Proofs.Ytmfehenfoepkfaa
open Go
set_option maxRecDepth 100000
set_option linter.all false
theorem gC {n : Int} {r : Bool} (hm : mK n = some r) : RO Try.prog 93 [] [i6 n] (.bool r) := by
 refine aZ Try.func93 rfl rfl ?_
 unfold mK at hm
 refine qS [] [(0, i6 n)] [] ?_
 refine A.mid [(2, .bool ((decide ((1:Int) ≤ n)) && (decide (n ≤ (1000:Int)))))] [] (fun hk => ?_) ?_
 ·rcases tf (decide ((1:Int) ≤ n)) with c1 | c1
  ·exact qS [(2, hto (bE c1)), (6, hto (lG (q := decide (n ≤ (1000:Int))) c1))] _ _ hk
  exact qS [(2, hto (bE c1)), (6, hto (mI (q := decide (n ≤ (1000:Int))) c1))] _ _ hk
 cases hm
 exact A.ret qE
theorem nq {t : aj} {ra1 : Int} {r : Bool} (hm : j9 t ra1 = some r) : RO Try.prog 94 [] [.agg (k2 t), i6 ra1] (.bool r) := by
 refine aZ Try.func94 rfl rfl ?_
 unfold j9 at hm
 refine qS [(0, .al 94002)] [(1, i6 ra1), (2, .ptr 94002 0)] [(94002, .cells 32 (k2 t))] ?_
 refine A.seq ?_
 refine qDs [] [] [(5, i6 0)] ?_
 refine A.block ?_
 refine A.bC 2 0 rfl rfl rfl fun hb1 => ?_
 obtain ⟨B1, K1, hB1, hK1, hm⟩ := aP hm
 refine A.lpI (l := t.ay) (j0 := 0) (B := B1) (K := K1) hm (fun j1 => fun sg => match sg with | () => [(1, i6 ra1), (2, .ptr 94002 0), (5, i6 (j1 : Int))]) (fun j1 => fun sg => match sg with | () => [(94002, .cells 32 (k2 t))]) ?_ ?_ ?_
 ·exact qW
 ·rintro j1 e1 Z1 ⟨⟩ hj1 hx1 hm
  rw [hB1] at hm
  refine A.seq ?_
  refine qDs [(3, hto (lnE aH t.ay))] [] [(10, .bool (decide ((j1 : Int) < (t.ay.length:Int))))] ?_
  refine qT (ltT hx1) ?_
  refine A.skip ?_
  show ah _ _ _ _ _
  refine A.seq ?_
  refine A.block ?_
  refine qDs [(3, hix (ix aH (aY hx1)))] [10] [(20, .bool (decide (e1.ID = ra1)))] ?_
  rcases aq hm with ⟨c1,hm⟩|⟨c1,hm⟩
  ·refine qT c1 ?_
   refine qS [] [(4, .bool true)] [] ?_
   cases hm
   exact A.ret qE
  refine qF c1 ?_
  refine A.skip ?_
  show ah _ _ _ _ _
  refine qGs [(1, hto (inc hx1 hb1))] [5, 20] [(5, i6 ((j1 + 1 : Nat) : Int))] ?_
  exact qX () hm
 rintro j1 ⟨⟩ hj1 hl1 hm
 rw [hK1] at hm
 refine A.seq ?_
 refine qDs [(3, hto (lnE aH t.ay))] [] [(10, .bool (decide ((j1 : Int) < (t.ay.length:Int))))] ?_
 refine qF (ltF hl1) ?_
 refine A.exit ?_
 show ah _ _ _ _ _
 refine qS [] [(4, .bool false)] [] ?_
 cases hm
 exact A.ret qE
theorem rM {t : aj} {dB : Int} {eR : Int} {r : Int × Bool} (hm : jI t dB eR = some r) : RO Try.prog 95 [] [.agg (k2 t), i6 dB, i6 eR] (.tup [i6 r.1, .bool r.2]) := by
 refine aZ Try.func95 rfl rfl ?_
 unfold jI at hm
 refine qS [(0, .al 95003)] [(1, i6 dB), (2, i6 eR), (3, .ptr 95003 0)] [(95003, .cells 32 (k2 t))] ?_
 refine A.seq ?_
 refine qDs [] [] [(8, i6 0)] ?_
 refine A.block ?_
 refine A.bC 3 1 rfl rfl rfl fun hb1 => ?_
 obtain ⟨B1, K1, hB1, hK1, hm⟩ := aP hm
 refine A.lpI (l := t.Links) (j0 := 0) (B := B1) (K := K1) hm (fun j1 => fun sg => match sg with | () => [(1, i6 dB), (2, i6 eR), (3, .ptr 95003 0), (8, i6 (j1 : Int))]) (fun j1 => fun sg => match sg with | () => [(95003, .cells 32 (k2 t))]) ?_ ?_ ?_
 ·exact qW
 ·rintro j1 e1 Z1 ⟨⟩ hj1 hx1 hm
  rw [hB1] at hm
  refine A.seq ?_
  refine qDs [(3, hto (lnE bu t.Links))] [] [(14, .bool (decide ((j1 : Int) < (t.Links.length:Int))))] ?_
  refine qT (ltT hx1) ?_
  refine A.skip ?_
  show ah _ _ _ _ _
  refine A.seq ?_
  refine A.block ?_
  refine qD [(3, hix (ix bu (aY hx1))), (5, .al 95009)] [14] [(9, .ptr 95009 0)] [] [(95009, .cells 85 (k1 e1))] ?_
  refine A.seq ?_
  refine A.mid [(1, i6 dB), (2, i6 eR), (3, .ptr 95003 0), (8, i6 (j1 : Int)), (9, .ptr 95009 0), (31, .bool ((decide (e1.A = dB)) && (decide (e1.B = eR))))] [(95003, .cells 32 (k2 t)), (95009, .cells 85 (k1 e1))] (fun hk => ?_) ?_
  ·rcases tf (decide (e1.A = dB)) with c1 | c1
   ·exact qS [(4, hto (bE c1)), (9, hto (lG (q := decide (e1.B = eR)) c1))] _ _ hk
   exact qS [(4, hto (bE c1)), (9, hto (mI (q := decide (e1.B = eR)) c1))] _ _ hk
  rcases aq hm with ⟨c2,hm⟩|⟨c2,hm⟩
  ·refine qT c2 ?_
   refine qS [] [(6, i6 e1.o5), (7, .bool true)] [] ?_
   cases hm
   exact A.ret qE
  refine qF c2 ?_
  refine A.skip ?_
  show ah _ _ _ _ _
  refine A.mid [(1, i6 dB), (2, i6 eR), (3, .ptr 95003 0), (8, i6 (j1 : Int)), (9, .ptr 95009 0), (43, .bool ((decide (e1.B = dB)) && (decide (e1.A = eR))))] [(95003, .cells 32 (k2 t)), (95009, .cells 85 (k1 e1))] (fun hk => ?_) ?_
  ·rcases tf (decide (e1.B = dB)) with c3 | c3
   ·exact qS [(4, hto (bE c3)), (9, hto (lG (q := decide (e1.A = eR)) c3))] _ _ hk
   exact qS [(4, hto (bE c3)), (9, hto (mI (q := decide (e1.A = eR)) c3))] _ _ hk
  rcases aq hm with ⟨c4,hm⟩|⟨c4,hm⟩
  ·refine qT c4 ?_
   refine qS [] [(6, i6 e1.nQ), (7, .bool true)] [] ?_
   cases hm
   exact A.ret qE
  refine qF c4 ?_
  refine A.skip ?_
  show ah _ _ _ _ _
  refine qG [(1, hto (inc hx1 hb1))] [8, 9, 43] [(8, i6 ((j1 + 1 : Nat) : Int))] [95009] [] ?_
  exact qX () hm
 rintro j1 ⟨⟩ hj1 hl1 hm
 rw [hK1] at hm
 refine A.seq ?_
 refine qDs [(3, hto (lnE bu t.Links))] [] [(14, .bool (decide ((j1 : Int) < (t.Links.length:Int))))] ?_
 refine qF (ltF hl1) ?_
 refine A.exit ?_
 show ah _ _ _ _ _
 refine qS [] [(6, i6 0), (7, .bool false)] [] ?_
 cases hm
 exact A.ret qE
theorem gR {t : aj} {r : Int} (hm : fP t = some r) : RO Try.prog 67 [] [.agg (k2 t)] (i6 r) := by
 refine aZ Try.func67 rfl rfl ?_
 unfold fP at hm
 refine qS [(0, .al 67001)] [(1, .ptr 67001 0)] [(67001, .cells 32 (k2 t))] ?_
 refine A.seq ?_
 refine A.mid [(1, .ptr 67001 0), (21, .bool ((decide ((24:Int) < (t.ay.length:Int))) || (decide ((60:Int) < (t.Links.length:Int)))))] [(67001, .cells 32 (k2 t))] (fun hk => ?_) ?_
 ·rcases tf (decide ((24:Int) < (t.ay.length:Int))) with c1 | c1
  ·exact qS [(2, hto (lnE aH t.ay)), (4, hto (bE c1)), (9, hto (orT (q := decide ((60:Int) < (t.Links.length:Int))) c1))] _ _ hk
  exact qS [(2, hto (lnE aH t.ay)), (4, hto (bE c1)), (7, hto (lnE bu t.Links)), (9, hto (orF (q := decide ((60:Int) < (t.Links.length:Int))) c1))] _ _ hk
 rcases aq hm with ⟨c2,hm⟩|⟨c2,hm⟩
 ·refine qT c2 ?_
  refine qS [] [(2, i6 3)] [] ?_
  cases hm
  exact A.ret qE
 refine qF c2 ?_
 refine A.skip ?_
 show ah _ _ _ _ _
 refine A.seq ?_
 refine qDs [] [21] [(3, i6 0)] ?_
 refine A.block ?_
 refine A.bC 1 0 rfl rfl rfl fun hb1 => ?_
 obtain ⟨B1, K1, hB1, hK1, hm⟩ := aP hm
 refine A.lpI (l := t.ay) (j0 := 0) (B := B1) (K := K1) hm (fun j1 => fun sg => match sg with | () => [(1, .ptr 67001 0), (3, i6 (j1 : Int))]) (fun j1 => fun sg => match sg with | () => [(67001, .cells 32 (k2 t))]) ?_ ?_ ?_
 ·exact qW
 ·rintro j1 e1 Z1 ⟨⟩ hj1 hx1 hm
  rw [hB1] at hm
  refine A.seq ?_
  refine qDs [(3, hto (lnE aH t.ay))] [] [(26, .bool (decide ((j1 : Int) < (t.ay.length:Int))))] ?_
  refine qT (ltT hx1) ?_
  refine A.skip ?_
  show ah _ _ _ _ _
  refine A.seq ?_
  refine A.block ?_
  refine A.mid [(1, .ptr 67001 0), (3, i6 (j1 : Int)), (44, .bool ((decide (e1.ID < (1:Int))) || (decide ((99:Int) < e1.ID))))] [(67001, .cells 32 (k2 t))] (fun hk => ?_) ?_
  ·rcases tf (decide (e1.ID < (1:Int))) with c3 | c3
   ·exact qS [(3, hix (ix aH (aY hx1))), (7, hto (bE c3)), (15, hto (orT (q := decide ((99:Int) < e1.ID)) c3))] _ _ hk
   exact qS [(3, hix (ix aH (aY hx1))), (7, hto (bE c3)), (11, hix (ix aH (aY hx1))), (15, hto (orF (q := decide ((99:Int) < e1.ID)) c3))] _ _ hk
  rcases aq hm with ⟨c4,hm⟩|⟨c4,hm⟩
  ·refine qT c4 ?_
   refine qS [] [(2, i6 2)] [] ?_
   cases hm
   exact A.ret qE
  refine qF c4 ?_
  refine A.skip ?_
  show ah _ _ _ _ _
  refine qGs [(1, hto (inc hx1 hb1))] [3, 44] [(3, i6 ((j1 + 1 : Nat) : Int))] ?_
  exact qX () hm
 rintro j1 ⟨⟩ hj1 hl1 hm
 rw [hK1] at hm
 refine A.seq ?_
 refine qDs [(3, hto (lnE aH t.ay))] [] [(26, .bool (decide ((j1 : Int) < (t.ay.length:Int))))] ?_
 refine qF (ltF hl1) ?_
 refine A.exit ?_
 show ah _ _ _ _ _
 refine A.seq ?_
 refine qDs [] [3, 26] [(4, i6 1)] ?_
 refine A.block ?_
 refine A.bC 1 0 rfl rfl rfl fun hb2 => ?_
 obtain ⟨B2, K2, hB2, hK2, hm⟩ := aP hm
 refine A.lpI (l := t.ay) (j0 := 1) (B := B2) (K := K2) hm (fun j2 => fun sg => match sg with | () => [(1, .ptr 67001 0), (4, i6 (j2 : Int))]) (fun j2 => fun sg => match sg with | () => [(67001, .cells 32 (k2 t))]) ?_ ?_ ?_
 ·exact qW
 ·rintro j2 e2 Z2 ⟨⟩ hj2 hx2 hm
  rw [hB2] at hm
  refine A.seq ?_
  refine qDs [(3, hto (lnE aH t.ay))] [] [(49, .bool (decide ((j2 : Int) < (t.ay.length:Int))))] ?_
  refine qT (ltT hx2) ?_
  refine A.skip ?_
  show ah _ _ _ _ _
  refine A.seq ?_
  refine A.block ?_
  obtain ⟨e_1, h1, hm⟩ := aa hm
  refine qDs [(4, hix (ix aH h1)), (10, hix (ix aH (aY hx2)))] [49] [(65, .bool (decide (e2.ID ≤ e_1.ID)))] ?_
  rcases aq hm with ⟨c5,hm⟩|⟨c5,hm⟩
  ·refine qT c5 ?_
   refine qS [] [(2, i6 25)] [] ?_
   cases hm
   exact A.ret qE
  refine qF c5 ?_
  refine A.skip ?_
  show ah _ _ _ _ _
  refine qGs [(1, hto (inc hx2 hb2))] [4, 65] [(4, i6 ((j2 + 1 : Nat) : Int))] ?_
  exact qX () hm
 rintro j2 ⟨⟩ hj2 hl2 hm
 rw [hK2] at hm
 refine A.seq ?_
 refine qDs [(3, hto (lnE aH t.ay))] [] [(49, .bool (decide ((j2 : Int) < (t.ay.length:Int))))] ?_
 refine qF (ltF hl2) ?_
 refine A.exit ?_
 show ah _ _ _ _ _
 refine A.seq ?_
 refine qDs [] [4, 49] [(5, i6 0)] ?_
 refine A.block ?_
 refine A.bC 1 1 rfl rfl rfl fun hb3 => ?_
 obtain ⟨B3, K3, hB3, hK3, hm⟩ := aP hm
 refine A.lpI (l := t.Links) (j0 := 0) (B := B3) (K := K3) hm (fun j3 => fun sg => match sg with | () => [(1, .ptr 67001 0), (5, i6 (j3 : Int))]) (fun j3 => fun sg => match sg with | () => [(67001, .cells 32 (k2 t))]) ?_ ?_ ?_
 ·exact qW
 ·rintro j3 e3 Z3 ⟨⟩ hj3 hx3 hm
  rw [hB3] at hm
  refine A.seq ?_
  refine qDs [(3, hto (lnE bu t.Links))] [] [(70, .bool (decide ((j3 : Int) < (t.Links.length:Int))))] ?_
  refine qT (ltT hx3) ?_
  refine A.skip ?_
  show ah _ _ _ _ _
  refine A.seq ?_
  refine A.block ?_
  refine qD [(3, hix (ix bu (aY hx3))), (5, .al 67006)] [70] [(6, .ptr 67006 0)] [] [(67006, .cells 85 (k1 e3))] ?_
  obtain ⟨J1, hJ1, hm⟩ := bN hm
  refine A.J (J := J1) (r := r) (fun v_1 => [(1, .ptr 67001 0), (5, i6 (j3 : Int)), (97, .bool v_1)]) (fun v_1 => [(67001, .cells 32 (k2 t))]) ?_ ?_
  ·obtain ⟨ak, h2, hm⟩ := aa hm
   rcases aq hm with ⟨c6,hm⟩|⟨c6,hm⟩
   ·refine qG [(2, hro (gC h2) xk), (4, hto (bE c6))] [6] [(97, .bool true)] [67006] [] ?_
    exact qX true hm
   obtain ⟨aF, h3, hm⟩ := aa hm
   rcases aq hm with ⟨c7,hm⟩|⟨c7,hm⟩
   ·refine qG [(2, hro (gC h2) xk), (4, hto (bE c6)), (7, hro (gC h3) xk), (10, hto (bE c7))] [6] [(97, .bool true)] [67006] [] ?_
    exact qX true hm
   rcases aq hm with ⟨c8,hm⟩|⟨c8,hm⟩
   ·refine qG [(2, hro (gC h2) xk), (4, hto (bE c6)), (7, hro (gC h3) xk), (10, hto (bE c7)), (15, hto (bE c8))] [6] [(97, .bool true)] [67006] [] ?_
    exact qX true hm
   refine qG [(2, hro (gC h2) xk), (4, hto (bE c6)), (7, hro (gC h3) xk), (10, hto (bE c7)), (15, hto (bE c8))] [6] [(97, .bool (decide ((1000:Int) < e3.j8)))] [67006] [] ?_
   exact qX (decide ((1000:Int) < e3.j8)) hm
  rintro v_1 hm
  rw [hJ1] at hm
  rcases aq hm with ⟨c9,hm⟩|⟨c9,hm⟩
  ·refine qT c9 ?_
   refine qS [] [(2, i6 2)] [] ?_
   cases hm
   exact A.ret qE
  refine qF c9 ?_
  refine A.skip ?_
  show ah _ _ _ _ _
  refine qGs [(1, hto (inc hx3 hb3))] [5, 97] [(5, i6 ((j3 + 1 : Nat) : Int))] ?_
  exact qX () hm
 rintro j3 ⟨⟩ hj3 hl3 hm
 rw [hK3] at hm
 refine A.seq ?_
 refine qDs [(3, hto (lnE bu t.Links))] [] [(70, .bool (decide ((j3 : Int) < (t.Links.length:Int))))] ?_
 refine qF (ltF hl3) ?_
 refine A.exit ?_
 show ah _ _ _ _ _
 refine A.seq ?_
 refine qDs [] [5, 70] [(7, i6 0)] ?_
 refine A.block ?_
 refine A.bC 1 1 rfl rfl rfl fun hb4 => ?_
 obtain ⟨B4, K4, hB4, hK4, hm⟩ := aP hm
 refine A.lpI (l := t.Links) (j0 := 0) (B := B4) (K := K4) hm (fun j4 => fun sg => match sg with | () => [(1, .ptr 67001 0), (7, i6 (j4 : Int))]) (fun j4 => fun sg => match sg with | () => [(67001, .cells 32 (k2 t))]) ?_ ?_ ?_
 ·exact qW
 ·rintro j4 e4 Z4 ⟨⟩ hj4 hx4 hm
  rw [hB4] at hm
  refine A.seq ?_
  refine qDs [(3, hto (lnE bu t.Links))] [] [(102, .bool (decide ((j4 : Int) < (t.Links.length:Int))))] ?_
  refine qT (ltT hx4) ?_
  refine A.skip ?_
  show ah _ _ _ _ _
  refine A.seq ?_
  refine A.block ?_
  obtain ⟨J2, hJ2, hm⟩ := bN hm
  refine A.J (J := J2) (r := r) (fun v_2 => [(1, .ptr 67001 0), (7, i6 (j4 : Int)), (124, .bool v_2)]) (fun v_2 => [(67001, .cells 32 (k2 t))]) ?_ ?_
  ·obtain ⟨aI, h4, hm⟩ := aa hm
   rcases aq hm with ⟨c10,hm⟩|⟨c10,hm⟩
   ·refine qGs [(4, hix (ix bu (aY hx4))), (7, hro (nq h4) ab7), (9, hto (bE c10))] [102] [(124, .bool true)] ?_
    exact qX true hm
   obtain ⟨aU, h5, hm⟩ := aa hm
   refine qGs [(4, hix (ix bu (aY hx4))), (7, hro (nq h4) ab7), (9, hto (bE c10)), (14, hix (ix bu (aY hx4))), (17, hro (nq h5) ab7)] [102] [(124, .bool (!aU))] ?_
   exact qX (!aU) hm
  rintro v_2 hm
  rw [hJ2] at hm
  rcases aq hm with ⟨c11,hm⟩|⟨c11,hm⟩
  ·refine qT c11 ?_
   refine qS [] [(2, i6 4)] [] ?_
   cases hm
   exact A.ret qE
  refine qF c11 ?_
  refine A.skip ?_
  show ah _ _ _ _ _
  refine qGs [(1, hto (inc hx4 hb4))] [7, 124] [(7, i6 ((j4 + 1 : Nat) : Int))] ?_
  exact qX () hm
 rintro j4 ⟨⟩ hj4 hl4 hm
 rw [hK4] at hm
 refine A.seq ?_
 refine qDs [(3, hto (lnE bu t.Links))] [] [(102, .bool (decide ((j4 : Int) < (t.Links.length:Int))))] ?_
 refine qF (ltF hl4) ?_
 refine A.exit ?_
 show ah _ _ _ _ _
 refine A.seq ?_
 refine qDs [] [7, 102] [(8, i6 0)] ?_
 refine A.block ?_
 refine A.bC 1 1 rfl rfl rfl fun hb5 => ?_
 obtain ⟨B5, K5, hB5, hK5, hm⟩ := aP hm
 refine A.lpI (l := t.Links) (j0 := 0) (B := B5) (K := K5) hm (fun j5 => fun sg => match sg with | () => [(1, .ptr 67001 0), (8, i6 (j5 : Int))]) (fun j5 => fun sg => match sg with | () => [(67001, .cells 32 (k2 t))]) ?_ ?_ ?_
 ·exact qW
 ·rintro j5 e5 Z5 ⟨⟩ hj5 hx5 hm
  rw [hB5] at hm
  refine A.seq ?_
  refine qDs [(3, hto (lnE bu t.Links))] [] [(129, .bool (decide ((j5 : Int) < (t.Links.length:Int))))] ?_
  refine qT (ltT hx5) ?_
  refine A.skip ?_
  show ah _ _ _ _ _
  refine A.seq ?_
  refine A.block ?_
  refine qDs [(3, hix (ix bu (aY hx5))), (9, hix (ix bu (aY hx5)))] [129] [(144, .bool (decide (e5.B ≤ e5.A)))] ?_
  rcases aq hm with ⟨c12,hm⟩|⟨c12,hm⟩
  ·refine qT c12 ?_
   refine qS [] [(2, i6 8)] [] ?_
   cases hm
   exact A.ret qE
  refine qF c12 ?_
  refine A.skip ?_
  show ah _ _ _ _ _
  refine qGs [(1, hto (inc hx5 hb5))] [8, 144] [(8, i6 ((j5 + 1 : Nat) : Int))] ?_
  exact qX () hm
 rintro j5 ⟨⟩ hj5 hl5 hm
 rw [hK5] at hm
 refine A.seq ?_
 refine qDs [(3, hto (lnE bu t.Links))] [] [(129, .bool (decide ((j5 : Int) < (t.Links.length:Int))))] ?_
 refine qF (ltF hl5) ?_
 refine A.exit ?_
 show ah _ _ _ _ _
 refine A.seq ?_
 refine qDs [] [8, 129] [(9, i6 1)] ?_
 refine A.block ?_
 refine A.bC 1 1 rfl rfl rfl fun hb6 => ?_
 obtain ⟨B6, K6, hB6, hK6, hm⟩ := aP hm
 refine A.lpI (l := t.Links) (j0 := 1) (B := B6) (K := K6) hm (fun j6 => fun sg => match sg with | () => [(1, .ptr 67001 0), (9, i6 (j6 : Int))]) (fun j6 => fun sg => match sg with | () => [(67001, .cells 32 (k2 t))]) ?_ ?_ ?_
 ·exact qW
 ·rintro j6 e6 Z6 ⟨⟩ hj6 hx6 hm
  rw [hB6] at hm
  refine A.seq ?_
  refine qDs [(3, hto (lnE bu t.Links))] [] [(149, .bool (decide ((j6 : Int) < (t.Links.length:Int))))] ?_
  refine qT (ltT hx6) ?_
  refine A.skip ?_
  show ah _ _ _ _ _
  refine A.seq ?_
  refine A.block ?_
  obtain ⟨e_2, h6, hm⟩ := aa hm
  refine qD [(4, hix (ix bu h6)), (9, hix (ix bu (aY hx6))), (11, .al 67010), (12, .al 67011)] [149] [(10, .ptr 67010 0), (11, .ptr 67011 0)] [] [(67010, .cells 85 (k1 e_2)), (67011, .cells 85 (k1 e6))] ?_
  refine A.mid [(1, .ptr 67001 0), (9, i6 (j6 : Int)), (181, .bool ((decide (e6.A < e_2.A)) || ((decide (e_2.A = e6.A)) && (decide (e6.B ≤ e_2.B)))))] [(67001, .cells 32 (k2 t))] (fun hk => ?_) ?_
  ·rcases tf (decide (e6.A < e_2.A)) with c13 | c13
   ·exact qS [(5, hto (bE c13)), (18, hto (orT (q := ((decide (e_2.A = e6.A)) && (decide (e6.B ≤ e_2.B)))) c13))] _ _ hk
   rcases tf (decide (e_2.A = e6.A)) with c14 | c14
   ·exact qS [(5, hto (bE c13)), (11, hto (bE c14)), (18, hto ((lG (q := decide (e6.B ≤ e_2.B)) c14).trans (orF (q := ((decide (e_2.A = e6.A)) && (decide (e6.B ≤ e_2.B)))) c13)))] _ _ hk
   exact qS [(5, hto (bE c13)), (11, hto (bE c14)), (18, hto ((mI (q := decide (e6.B ≤ e_2.B)) c14).trans (orF (q := ((decide (e_2.A = e6.A)) && (decide (e6.B ≤ e_2.B)))) c13)))] _ _ hk
  rcases aq hm with ⟨c15,hm⟩|⟨c15,hm⟩
  ·refine qT c15 ?_
   refine qS [] [(2, i6 25)] [] ?_
   cases hm
   exact A.ret qE
  refine qF c15 ?_
  refine A.skip ?_
  show ah _ _ _ _ _
  refine qGs [(1, hto (inc hx6 hb6))] [9, 181] [(9, i6 ((j6 + 1 : Nat) : Int))] ?_
  exact qX () hm
 rintro j6 ⟨⟩ hj6 hl6 hm
 rw [hK6] at hm
 refine A.seq ?_
 refine qDs [(3, hto (lnE bu t.Links))] [] [(149, .bool (decide ((j6 : Int) < (t.Links.length:Int))))] ?_
 refine qF (ltF hl6) ?_
 refine A.exit ?_
 show ah _ _ _ _ _
 refine qS [] [(2, i6 0)] [] ?_
 cases hm
 exact A.ret qE
end Go.Proofs.Ytmfehenfoepkfaa
