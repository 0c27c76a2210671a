/- The walks of functions of the program. No condition but those that stand in each. -/
import Derived.Test.YtflifgcoleknlaaDA
namespace Go.Proofs.Ytflifgcoleknlaa
open Go
set_option maxRecDepth 100000
set_option linter.all false
theorem m_ref05_cost_ok {n : Int} {r : Bool} (hm : m_ref05_cost n = some r) : RO Try.prog 74 [] [i6 n] (.bool r) := by
 refine enterA Try.func74 rfl rfl ?_
 unfold m_ref05_cost at hm
 refine qS [] [(0, i6 n)] [] ?_
 refine A.mid [(2, .bool ((decide ((1:Int) ≤ n)) && (decide (n ≤ (1000:Int)))))] [] (fun hk => ?_) ?_
 ·rcases tf (decide ((1:Int) ≤ n)) with c1 | c1
  ·exact qS [(2, hto (bE c1)), (6, hto (andT (q := decide (n ≤ (1000:Int))) c1))] _ _ hk
  exact qS [(2, hto (bE c1)), (6, hto (andF (q := decide (n ≤ (1000:Int))) c1))] _ _ hk
 cases hm
 exact A.ret qE
theorem m_ref05_has_ok {t : GTopology} {ra1 : Int} {r : Bool} (hm : m_ref05_has t ra1 = some r) : RO Try.prog 67 [] [.agg (k2 t), i6 ra1] (.bool r) := by
 refine enterA Try.func67 rfl rfl ?_
 unfold m_ref05_has at hm
 refine qS [(0, .al 67002)] [(1, i6 ra1), (2, .ptr 67002 0)] [(67002, .cells 28 (k2 t))] ?_
 refine A.seq ?_
 refine qDs [] [] [(5, i6 0)] ?_
 refine A.block ?_
 refine A.bC 2 0 rfl rfl rfl fun hb1 => ?_
 obtain ⟨B1, K1, hB1, hK1, hm⟩ := forI_some hm
 refine A.lpI (l := t.Routers) (j0 := 0) (B := B1) (K := K1) hm (fun j1 => fun sg => match sg with | () => [(1, i6 ra1), (2, .ptr 67002 0), (5, i6 (j1 : Int))]) (fun j1 => fun sg => match sg with | () => [(67002, .cells 28 (k2 t))]) ?_ ?_ ?_
 ·exact qW
 ·rintro j1 e1 Z1 ⟨⟩ hj1 hx1 hm
  rw [hB1] at hm
  refine A.seq ?_
  refine qDs [(3, hto (lnE eGRouter t.Routers))] [] [(10, .bool (decide ((j1 : Int) < (t.Routers.length:Int))))] ?_
  refine qT (ltT hx1) ?_
  refine A.skip ?_
  show acode _ _ _ _ _
  refine A.seq ?_
  refine A.block ?_
  refine qDs [(3, hix (ix eGRouter (elO_nat hx1)))] [10] [(20, .bool (decide (e1.ID = ra1)))] ?_
  rcases cs_some hm with ⟨c1,hm⟩|⟨c1,hm⟩
  ·refine qT c1 ?_
   refine qS [] [(4, .bool true)] [] ?_
   cases hm
   exact A.ret qE
  refine qF c1 ?_
  refine A.skip ?_
  show acode _ _ _ _ _
  refine qGs [(1, hto (inc hx1 hb1))] [5, 20] [(5, i6 ((j1 + 1 : Nat) : Int))] ?_
  exact qX () hm
 rintro j1 ⟨⟩ hj1 hl1 hm
 rw [hK1] at hm
 refine A.seq ?_
 refine qDs [(3, hto (lnE eGRouter t.Routers))] [] [(10, .bool (decide ((j1 : Int) < (t.Routers.length:Int))))] ?_
 refine qF (ltF hl1) ?_
 refine A.exit ?_
 show acode _ _ _ _ _
 refine qS [] [(4, .bool false)] [] ?_
 cases hm
 exact A.ret qE
theorem m_ref05_Price_ok {t : GTopology} {froma1 : Int} {toa2 : Int} {r : Int × Bool} (hm : m_ref05_Price t froma1 toa2 = some r) : RO Try.prog 31 [] [.agg (k2 t), i6 froma1, i6 toa2] (.tup [i6 r.1, .bool r.2]) := by
 refine enterA Try.func31 rfl rfl ?_
 unfold m_ref05_Price at hm
 refine qS [(0, .al 31003)] [(1, i6 froma1), (2, i6 toa2), (3, .ptr 31003 0)] [(31003, .cells 28 (k2 t))] ?_
 refine A.seq ?_
 refine qDs [] [] [(8, i6 0)] ?_
 refine A.block ?_
 refine A.bC 3 1 rfl rfl rfl fun hb1 => ?_
 obtain ⟨B1, K1, hB1, hK1, hm⟩ := forI_some hm
 refine A.lpI (l := t.Links) (j0 := 0) (B := B1) (K := K1) hm (fun j1 => fun sg => match sg with | () => [(1, i6 froma1), (2, i6 toa2), (3, .ptr 31003 0), (8, i6 (j1 : Int))]) (fun j1 => fun sg => match sg with | () => [(31003, .cells 28 (k2 t))]) ?_ ?_ ?_
 ·exact qW
 ·rintro j1 e1 Z1 ⟨⟩ hj1 hx1 hm
  rw [hB1] at hm
  refine A.seq ?_
  refine qDs [(3, hto (lnE eGLink t.Links))] [] [(14, .bool (decide ((j1 : Int) < (t.Links.length:Int))))] ?_
  refine qT (ltT hx1) ?_
  refine A.skip ?_
  show acode _ _ _ _ _
  refine A.seq ?_
  refine A.block ?_
  refine qD [(3, hix (ix eGLink (elO_nat hx1))), (5, .al 31009)] [14] [(9, .ptr 31009 0)] [] [(31009, .cells 42 (k1 e1))] ?_
  refine A.seq ?_
  refine A.mid [(1, i6 froma1), (2, i6 toa2), (3, .ptr 31003 0), (8, i6 (j1 : Int)), (9, .ptr 31009 0), (31, .bool ((decide (e1.A = froma1)) && (decide (e1.B = toa2))))] [(31003, .cells 28 (k2 t)), (31009, .cells 42 (k1 e1))] (fun hk => ?_) ?_
  ·rcases tf (decide (e1.A = froma1)) with c1 | c1
   ·exact qS [(4, hto (bE c1)), (9, hto (andT (q := decide (e1.B = toa2)) c1))] _ _ hk
   exact qS [(4, hto (bE c1)), (9, hto (andF (q := decide (e1.B = toa2)) c1))] _ _ hk
  rcases cs_some hm with ⟨c2,hm⟩|⟨c2,hm⟩
  ·refine qT c2 ?_
   refine qS [] [(6, i6 e1.CostA), (7, .bool true)] [] ?_
   cases hm
   exact A.ret qE
  refine qF c2 ?_
  refine A.skip ?_
  show acode _ _ _ _ _
  refine A.mid [(1, i6 froma1), (2, i6 toa2), (3, .ptr 31003 0), (8, i6 (j1 : Int)), (9, .ptr 31009 0), (43, .bool ((decide (e1.B = froma1)) && (decide (e1.A = toa2))))] [(31003, .cells 28 (k2 t)), (31009, .cells 42 (k1 e1))] (fun hk => ?_) ?_
  ·rcases tf (decide (e1.B = froma1)) with c3 | c3
   ·exact qS [(4, hto (bE c3)), (9, hto (andT (q := decide (e1.A = toa2)) c3))] _ _ hk
   exact qS [(4, hto (bE c3)), (9, hto (andF (q := decide (e1.A = toa2)) c3))] _ _ hk
  rcases cs_some hm with ⟨c4,hm⟩|⟨c4,hm⟩
  ·refine qT c4 ?_
   refine qS [] [(6, i6 e1.CostB), (7, .bool true)] [] ?_
   cases hm
   exact A.ret qE
  refine qF c4 ?_
  refine A.skip ?_
  show acode _ _ _ _ _
  refine qG [(1, hto (inc hx1 hb1))] [8, 9, 43] [(8, i6 ((j1 + 1 : Nat) : Int))] [31009] [] ?_
  exact qX () hm
 rintro j1 ⟨⟩ hj1 hl1 hm
 rw [hK1] at hm
 refine A.seq ?_
 refine qDs [(3, hto (lnE eGLink t.Links))] [] [(14, .bool (decide ((j1 : Int) < (t.Links.length:Int))))] ?_
 refine qF (ltF hl1) ?_
 refine A.exit ?_
 show acode _ _ _ _ _
 refine qS [] [(6, i6 0), (7, .bool false)] [] ?_
 cases hm
 exact A.ret qE
theorem m_ref05_Check_ok {t : GTopology} {r : Int} (hm : m_ref05_Check t = some r) : RO Try.prog 61 [] [.agg (k2 t)] (i6 r) := by
 refine enterA Try.func61 rfl rfl ?_
 unfold m_ref05_Check at hm
 refine qS [(0, .al 61001)] [(1, .ptr 61001 0)] [(61001, .cells 28 (k2 t))] ?_
 refine A.seq ?_
 refine A.mid [(1, .ptr 61001 0), (21, .bool ((decide ((24:Int) < (t.Routers.length:Int))) || (decide ((60:Int) < (t.Links.length:Int)))))] [(61001, .cells 28 (k2 t))] (fun hk => ?_) ?_
 ·rcases tf (decide ((24:Int) < (t.Routers.length:Int))) with c1 | c1
  ·exact qS [(2, hto (lnE eGRouter t.Routers)), (4, hto (bE c1)), (9, hto (orT (q := decide ((60:Int) < (t.Links.length:Int))) c1))] _ _ hk
  exact qS [(2, hto (lnE eGRouter t.Routers)), (4, hto (bE c1)), (7, hto (lnE eGLink t.Links)), (9, hto (orF (q := decide ((60:Int) < (t.Links.length:Int))) c1))] _ _ hk
 rcases cs_some hm with ⟨c2,hm⟩|⟨c2,hm⟩
 ·refine qT c2 ?_
  refine qS [] [(2, i6 3)] [] ?_
  cases hm
  exact A.ret qE
 refine qF c2 ?_
 refine A.skip ?_
 show acode _ _ _ _ _
 refine A.seq ?_
 refine qDs [] [21] [(3, i6 0)] ?_
 refine A.block ?_
 refine A.bC 1 0 rfl rfl rfl fun hb1 => ?_
 obtain ⟨B1, K1, hB1, hK1, hm⟩ := forI_some hm
 refine A.lpI (l := t.Routers) (j0 := 0) (B := B1) (K := K1) hm (fun j1 => fun sg => match sg with | () => [(1, .ptr 61001 0), (3, i6 (j1 : Int))]) (fun j1 => fun sg => match sg with | () => [(61001, .cells 28 (k2 t))]) ?_ ?_ ?_
 ·exact qW
 ·rintro j1 e1 Z1 ⟨⟩ hj1 hx1 hm
  rw [hB1] at hm
  refine A.seq ?_
  refine qDs [(3, hto (lnE eGRouter t.Routers))] [] [(26, .bool (decide ((j1 : Int) < (t.Routers.length:Int))))] ?_
  refine qT (ltT hx1) ?_
  refine A.skip ?_
  show acode _ _ _ _ _
  refine A.seq ?_
  refine A.block ?_
  refine A.mid [(1, .ptr 61001 0), (3, i6 (j1 : Int)), (44, .bool ((decide (e1.ID < (1:Int))) || (decide ((99:Int) < e1.ID))))] [(61001, .cells 28 (k2 t))] (fun hk => ?_) ?_
  ·rcases tf (decide (e1.ID < (1:Int))) with c3 | c3
   ·exact qS [(3, hix (ix eGRouter (elO_nat hx1))), (7, hto (bE c3)), (15, hto (orT (q := decide ((99:Int) < e1.ID)) c3))] _ _ hk
   exact qS [(3, hix (ix eGRouter (elO_nat hx1))), (7, hto (bE c3)), (11, hix (ix eGRouter (elO_nat hx1))), (15, hto (orF (q := decide ((99:Int) < e1.ID)) c3))] _ _ hk
  rcases cs_some hm with ⟨c4,hm⟩|⟨c4,hm⟩
  ·refine qT c4 ?_
   refine qS [] [(2, i6 2)] [] ?_
   cases hm
   exact A.ret qE
  refine qF c4 ?_
  refine A.skip ?_
  show acode _ _ _ _ _
  refine qGs [(1, hto (inc hx1 hb1))] [3, 44] [(3, i6 ((j1 + 1 : Nat) : Int))] ?_
  exact qX () hm
 rintro j1 ⟨⟩ hj1 hl1 hm
 rw [hK1] at hm
 refine A.seq ?_
 refine qDs [(3, hto (lnE eGRouter t.Routers))] [] [(26, .bool (decide ((j1 : Int) < (t.Routers.length:Int))))] ?_
 refine qF (ltF hl1) ?_
 refine A.exit ?_
 show acode _ _ _ _ _
 refine A.seq ?_
 refine qDs [] [3, 26] [(4, i6 1)] ?_
 refine A.block ?_
 refine A.bC 1 0 rfl rfl rfl fun hb2 => ?_
 obtain ⟨B2, K2, hB2, hK2, hm⟩ := forI_some hm
 refine A.lpI (l := t.Routers) (j0 := 1) (B := B2) (K := K2) hm (fun j2 => fun sg => match sg with | () => [(1, .ptr 61001 0), (4, i6 (j2 : Int))]) (fun j2 => fun sg => match sg with | () => [(61001, .cells 28 (k2 t))]) ?_ ?_ ?_
 ·exact qW
 ·rintro j2 e2 Z2 ⟨⟩ hj2 hx2 hm
  rw [hB2] at hm
  refine A.seq ?_
  refine qDs [(3, hto (lnE eGRouter t.Routers))] [] [(49, .bool (decide ((j2 : Int) < (t.Routers.length:Int))))] ?_
  refine qT (ltT hx2) ?_
  refine A.skip ?_
  show acode _ _ _ _ _
  refine A.seq ?_
  refine A.block ?_
  obtain ⟨e_1, h1, hm⟩ := bnd_some hm
  refine qDs [(4, hix (ix eGRouter h1)), (10, hix (ix eGRouter (elO_nat hx2)))] [49] [(65, .bool (decide (e2.ID ≤ e_1.ID)))] ?_
  rcases cs_some hm with ⟨c5,hm⟩|⟨c5,hm⟩
  ·refine qT c5 ?_
   refine qS [] [(2, i6 25)] [] ?_
   cases hm
   exact A.ret qE
  refine qF c5 ?_
  refine A.skip ?_
  show acode _ _ _ _ _
  refine qGs [(1, hto (inc hx2 hb2))] [4, 65] [(4, i6 ((j2 + 1 : Nat) : Int))] ?_
  exact qX () hm
 rintro j2 ⟨⟩ hj2 hl2 hm
 rw [hK2] at hm
 refine A.seq ?_
 refine qDs [(3, hto (lnE eGRouter t.Routers))] [] [(49, .bool (decide ((j2 : Int) < (t.Routers.length:Int))))] ?_
 refine qF (ltF hl2) ?_
 refine A.exit ?_
 show acode _ _ _ _ _
 refine A.seq ?_
 refine qDs [] [4, 49] [(5, i6 0)] ?_
 refine A.block ?_
 refine A.bC 1 1 rfl rfl rfl fun hb3 => ?_
 obtain ⟨B3, K3, hB3, hK3, hm⟩ := forI_some hm
 refine A.lpI (l := t.Links) (j0 := 0) (B := B3) (K := K3) hm (fun j3 => fun sg => match sg with | () => [(1, .ptr 61001 0), (5, i6 (j3 : Int))]) (fun j3 => fun sg => match sg with | () => [(61001, .cells 28 (k2 t))]) ?_ ?_ ?_
 ·exact qW
 ·rintro j3 e3 Z3 ⟨⟩ hj3 hx3 hm
  rw [hB3] at hm
  refine A.seq ?_
  refine qDs [(3, hto (lnE eGLink t.Links))] [] [(70, .bool (decide ((j3 : Int) < (t.Links.length:Int))))] ?_
  refine qT (ltT hx3) ?_
  refine A.skip ?_
  show acode _ _ _ _ _
  refine A.seq ?_
  refine A.block ?_
  refine qD [(3, hix (ix eGLink (elO_nat hx3))), (5, .al 61006)] [70] [(6, .ptr 61006 0)] [] [(61006, .cells 42 (k1 e3))] ?_
  obtain ⟨J1, hJ1, hm⟩ := jn_some hm
  refine A.J (J := J1) (r := r) (fun v_1 => [(1, .ptr 61001 0), (5, i6 (j3 : Int)), (97, .bool v_1)]) (fun v_1 => [(61001, .cells 28 (k2 t))]) ?_ ?_
  ·obtain ⟨vx_1, h2, hm⟩ := bnd_some hm
   rcases cs_some hm with ⟨c6,hm⟩|⟨c6,hm⟩
   ·refine qG [(2, hro (m_ref05_cost_ok h2) ck74), (4, hto (bE c6))] [6] [(97, .bool true)] [61006] [] ?_
    exact qX true hm
   obtain ⟨vx_2, h3, hm⟩ := bnd_some hm
   rcases cs_some hm with ⟨c7,hm⟩|⟨c7,hm⟩
   ·refine qG [(2, hro (m_ref05_cost_ok h2) ck74), (4, hto (bE c6)), (7, hro (m_ref05_cost_ok h3) ck74), (10, hto (bE c7))] [6] [(97, .bool true)] [61006] [] ?_
    exact qX true hm
   rcases cs_some hm with ⟨c8,hm⟩|⟨c8,hm⟩
   ·refine qG [(2, hro (m_ref05_cost_ok h2) ck74), (4, hto (bE c6)), (7, hro (m_ref05_cost_ok h3) ck74), (10, hto (bE c7)), (15, hto (bE c8))] [6] [(97, .bool true)] [61006] [] ?_
    exact qX true hm
   refine qG [(2, hro (m_ref05_cost_ok h2) ck74), (4, hto (bE c6)), (7, hro (m_ref05_cost_ok h3) ck74), (10, hto (bE c7)), (15, hto (bE c8))] [6] [(97, .bool (decide ((1000:Int) < e3.Capacity)))] [61006] [] ?_
   exact qX (decide ((1000:Int) < e3.Capacity)) hm
  rintro v_1 hm
  rw [hJ1] at hm
  rcases cs_some hm with ⟨c9,hm⟩|⟨c9,hm⟩
  ·refine qT c9 ?_
   refine qS [] [(2, i6 2)] [] ?_
   cases hm
   exact A.ret qE
  refine qF c9 ?_
  refine A.skip ?_
  show acode _ _ _ _ _
  refine qGs [(1, hto (inc hx3 hb3))] [5, 97] [(5, i6 ((j3 + 1 : Nat) : Int))] ?_
  exact qX () hm
 rintro j3 ⟨⟩ hj3 hl3 hm
 rw [hK3] at hm
 refine A.seq ?_
 refine qDs [(3, hto (lnE eGLink t.Links))] [] [(70, .bool (decide ((j3 : Int) < (t.Links.length:Int))))] ?_
 refine qF (ltF hl3) ?_
 refine A.exit ?_
 show acode _ _ _ _ _
 refine A.seq ?_
 refine qDs [] [5, 70] [(7, i6 0)] ?_
 refine A.block ?_
 refine A.bC 1 1 rfl rfl rfl fun hb4 => ?_
 obtain ⟨B4, K4, hB4, hK4, hm⟩ := forI_some hm
 refine A.lpI (l := t.Links) (j0 := 0) (B := B4) (K := K4) hm (fun j4 => fun sg => match sg with | () => [(1, .ptr 61001 0), (7, i6 (j4 : Int))]) (fun j4 => fun sg => match sg with | () => [(61001, .cells 28 (k2 t))]) ?_ ?_ ?_
 ·exact qW
 ·rintro j4 e4 Z4 ⟨⟩ hj4 hx4 hm
  rw [hB4] at hm
  refine A.seq ?_
  refine qDs [(3, hto (lnE eGLink t.Links))] [] [(102, .bool (decide ((j4 : Int) < (t.Links.length:Int))))] ?_
  refine qT (ltT hx4) ?_
  refine A.skip ?_
  show acode _ _ _ _ _
  refine A.seq ?_
  refine A.block ?_
  obtain ⟨J2, hJ2, hm⟩ := jn_some hm
  refine A.J (J := J2) (r := r) (fun v_2 => [(1, .ptr 61001 0), (7, i6 (j4 : Int)), (124, .bool v_2)]) (fun v_2 => [(61001, .cells 28 (k2 t))]) ?_ ?_
  ·obtain ⟨vx_3, h4, hm⟩ := bnd_some hm
   rcases cs_some hm with ⟨c10,hm⟩|⟨c10,hm⟩
   ·refine qGs [(4, hix (ix eGLink (elO_nat hx4))), (7, hro (m_ref05_has_ok h4) ck67), (9, hto (bE c10))] [102] [(124, .bool true)] ?_
    exact qX true hm
   obtain ⟨vx_4, h5, hm⟩ := bnd_some hm
   refine qGs [(4, hix (ix eGLink (elO_nat hx4))), (7, hro (m_ref05_has_ok h4) ck67), (9, hto (bE c10)), (14, hix (ix eGLink (elO_nat hx4))), (17, hro (m_ref05_has_ok h5) ck67)] [102] [(124, .bool (!vx_4))] ?_
   exact qX (!vx_4) hm
  rintro v_2 hm
  rw [hJ2] at hm
  rcases cs_some hm with ⟨c11,hm⟩|⟨c11,hm⟩
  ·refine qT c11 ?_
   refine qS [] [(2, i6 4)] [] ?_
   cases hm
   exact A.ret qE
  refine qF c11 ?_
  refine A.skip ?_
  show acode _ _ _ _ _
  refine qGs [(1, hto (inc hx4 hb4))] [7, 124] [(7, i6 ((j4 + 1 : Nat) : Int))] ?_
  exact qX () hm
 rintro j4 ⟨⟩ hj4 hl4 hm
 rw [hK4] at hm
 refine A.seq ?_
 refine qDs [(3, hto (lnE eGLink t.Links))] [] [(102, .bool (decide ((j4 : Int) < (t.Links.length:Int))))] ?_
 refine qF (ltF hl4) ?_
 refine A.exit ?_
 show acode _ _ _ _ _
 refine A.seq ?_
 refine qDs [] [7, 102] [(8, i6 0)] ?_
 refine A.block ?_
 refine A.bC 1 1 rfl rfl rfl fun hb5 => ?_
 obtain ⟨B5, K5, hB5, hK5, hm⟩ := forI_some hm
 refine A.lpI (l := t.Links) (j0 := 0) (B := B5) (K := K5) hm (fun j5 => fun sg => match sg with | () => [(1, .ptr 61001 0), (8, i6 (j5 : Int))]) (fun j5 => fun sg => match sg with | () => [(61001, .cells 28 (k2 t))]) ?_ ?_ ?_
 ·exact qW
 ·rintro j5 e5 Z5 ⟨⟩ hj5 hx5 hm
  rw [hB5] at hm
  refine A.seq ?_
  refine qDs [(3, hto (lnE eGLink t.Links))] [] [(129, .bool (decide ((j5 : Int) < (t.Links.length:Int))))] ?_
  refine qT (ltT hx5) ?_
  refine A.skip ?_
  show acode _ _ _ _ _
  refine A.seq ?_
  refine A.block ?_
  refine qDs [(3, hix (ix eGLink (elO_nat hx5))), (9, hix (ix eGLink (elO_nat hx5)))] [129] [(144, .bool (decide (e5.B ≤ e5.A)))] ?_
  rcases cs_some hm with ⟨c12,hm⟩|⟨c12,hm⟩
  ·refine qT c12 ?_
   refine qS [] [(2, i6 8)] [] ?_
   cases hm
   exact A.ret qE
  refine qF c12 ?_
  refine A.skip ?_
  show acode _ _ _ _ _
  refine qGs [(1, hto (inc hx5 hb5))] [8, 144] [(8, i6 ((j5 + 1 : Nat) : Int))] ?_
  exact qX () hm
 rintro j5 ⟨⟩ hj5 hl5 hm
 rw [hK5] at hm
 refine A.seq ?_
 refine qDs [(3, hto (lnE eGLink t.Links))] [] [(129, .bool (decide ((j5 : Int) < (t.Links.length:Int))))] ?_
 refine qF (ltF hl5) ?_
 refine A.exit ?_
 show acode _ _ _ _ _
 refine A.seq ?_
 refine qDs [] [8, 129] [(9, i6 1)] ?_
 refine A.block ?_
 refine A.bC 1 1 rfl rfl rfl fun hb6 => ?_
 obtain ⟨B6, K6, hB6, hK6, hm⟩ := forI_some hm
 refine A.lpI (l := t.Links) (j0 := 1) (B := B6) (K := K6) hm (fun j6 => fun sg => match sg with | () => [(1, .ptr 61001 0), (9, i6 (j6 : Int))]) (fun j6 => fun sg => match sg with | () => [(61001, .cells 28 (k2 t))]) ?_ ?_ ?_
 ·exact qW
 ·rintro j6 e6 Z6 ⟨⟩ hj6 hx6 hm
  rw [hB6] at hm
  refine A.seq ?_
  refine qDs [(3, hto (lnE eGLink t.Links))] [] [(149, .bool (decide ((j6 : Int) < (t.Links.length:Int))))] ?_
  refine qT (ltT hx6) ?_
  refine A.skip ?_
  show acode _ _ _ _ _
  refine A.seq ?_
  refine A.block ?_
  obtain ⟨e_2, h6, hm⟩ := bnd_some hm
  refine qD [(4, hix (ix eGLink h6)), (9, hix (ix eGLink (elO_nat hx6))), (11, .al 61010), (12, .al 61011)] [149] [(10, .ptr 61010 0), (11, .ptr 61011 0)] [] [(61010, .cells 42 (k1 e_2)), (61011, .cells 42 (k1 e6))] ?_
  refine A.mid [(1, .ptr 61001 0), (9, i6 (j6 : Int)), (181, .bool ((decide (e6.A < e_2.A)) || ((decide (e_2.A = e6.A)) && (decide (e6.B ≤ e_2.B)))))] [(61001, .cells 28 (k2 t))] (fun hk => ?_) ?_
  ·rcases tf (decide (e6.A < e_2.A)) with c13 | c13
   ·exact qS [(5, hto (bE c13)), (18, hto (orT (q := ((decide (e_2.A = e6.A)) && (decide (e6.B ≤ e_2.B)))) c13))] _ _ hk
   rcases tf (decide (e_2.A = e6.A)) with c14 | c14
   ·exact qS [(5, hto (bE c13)), (11, hto (bE c14)), (18, hto ((andT (q := decide (e6.B ≤ e_2.B)) c14).trans (orF (q := ((decide (e_2.A = e6.A)) && (decide (e6.B ≤ e_2.B)))) c13)))] _ _ hk
   exact qS [(5, hto (bE c13)), (11, hto (bE c14)), (18, hto ((andF (q := decide (e6.B ≤ e_2.B)) c14).trans (orF (q := ((decide (e_2.A = e6.A)) && (decide (e6.B ≤ e_2.B)))) c13)))] _ _ hk
  rcases cs_some hm with ⟨c15,hm⟩|⟨c15,hm⟩
  ·refine qT c15 ?_
   refine qS [] [(2, i6 25)] [] ?_
   cases hm
   exact A.ret qE
  refine qF c15 ?_
  refine A.skip ?_
  show acode _ _ _ _ _
  refine qGs [(1, hto (inc hx6 hb6))] [9, 181] [(9, i6 ((j6 + 1 : Nat) : Int))] ?_
  exact qX () hm
 rintro j6 ⟨⟩ hj6 hl6 hm
 rw [hK6] at hm
 refine A.seq ?_
 refine qDs [(3, hto (lnE eGLink t.Links))] [] [(149, .bool (decide ((j6 : Int) < (t.Links.length:Int))))] ?_
 refine qF (ltF hl6) ?_
 refine A.exit ?_
 show acode _ _ _ _ _
 refine qS [] [(2, i6 0)] [] ?_
 cases hm
 exact A.ret qE
theorem m_mk_Cut_ok {xa0 : Int} {n : Int} {r : Int} (hm : m_mk_Cut xa0 n = some r) : RO Try.prog 56 [] [i6 xa0, i6 n] (i6 r) := by
 refine enterA Try.func56 rfl rfl ?_
 unfold m_mk_Cut at hm
 refine qS [] [(0, i6 xa0), (1, i6 n)] [] ?_
 refine A.seq ?_
 refine qDs [] [] [(6, .bool (decide (n < (1:Int))))] ?_
 rcases cs_some hm with ⟨c1,hm⟩|⟨c1,hm⟩
 ·refine qT c1 ?_
  refine qS [] [(4, i6 0)] [] ?_
  cases hm
  exact A.ret qE
 refine qF c1 ?_
 refine A.skip ?_
 show acode _ _ _ _ _
 obtain ⟨h1, hm⟩ := chk_some hm
 refine qDs [(2, .qr n (of_decide_eq_true h1))] [0, 6] [(0, i6 (Int.tmod xa0 n))] ?_
 obtain ⟨J1, hJ1, hm⟩ := jn_some hm
 refine A.J (J := J1) (r := r) (fun vx_1 => [(0, i6 vx_1)]) (fun vx_1 => []) ?_ ?_
 ·refine qDs [] [] [(11, .bool (decide (Int.tmod xa0 n < (0:Int))))] ?_
  rcases cs_some hm with ⟨c2,hm⟩|⟨c2,hm⟩
  ·refine qT c2 ?_
   refine qR [] [(0, i6 (w64 ((Int.tmod xa0 n) + n)))] [] ?_
   exact qX (w64 ((Int.tmod xa0 n) + n)) hm
  refine qF c2 ?_
  refine A.skip ?_
  exact qX (Int.tmod xa0 n) hm
 rintro vx_1 hm
 rw [hJ1] at hm
 refine qS [] [(4, i6 vx_1)] [] ?_
 cases hm
 exact A.ret qE
theorem m_mk_Tape_Raw_ok {t : GTape} {r : Int × GTape} (hm : m_mk_Tape_Raw t = some r) : SCalls Try.prog 57 [(900000064, .cells 64 (k3 t))] [.ptr 900000064 0] (fun a σ' => a = i6 r.1 ∧ σ' = [(900000064, .cells 64 (k3 r.2))]) := by
 refine enterA Try.func57 rfl rfl ?_
 unfold m_mk_Tape_Raw at hm
 refine qS [] [(0, .ptr 900000064 0)] [(900000064, .cells 64 (k3 t))] ?_
 refine A.seq ?_
 refine qDs [(8, hto (lnE eInt t.L))] [] [(12, .bool (decide ((t.L.length:Int) ≤ t.At)))] ?_
 rcases cs_some hm with ⟨c1,hm⟩|⟨c1,hm⟩
 ·refine qT c1 ?_
  refine qDs [] [0, 12] [(2, i6 0)] ?_
  cases hm
  exact A.ret qE
 refine qF c1 ?_
 refine A.skip ?_
 show acode _ _ _ _ _
 refine qD [] [12] [] [900000064] [(900000064, .cells 64 [lf eInt t.L, i6 (w64 (t.At + (1:Int)))])] ?_
 obtain ⟨e_1, h1, hm⟩ := bnd_some hm
 refine qDs [(9, hix (ix eInt h1))] [0] [(2, i6 e_1)] ?_
 cases hm
 exact A.ret qE
theorem m_mk_Tape_Next_ok {t : GTape} {n : Int} {r : Int × GTape} (hm : m_mk_Tape_Next t n = some r) : SCalls Try.prog 23 [(900000064, .cells 64 (k3 t))] [.ptr 900000064 0, i6 n] (fun a σ' => a = i6 r.1 ∧ σ' = [(900000064, .cells 64 (k3 r.2))]) := by
 refine enterA Try.func23 rfl rfl ?_
 unfold m_mk_Tape_Next at hm
 refine qS [] [(0, .ptr 900000064 0), (1, i6 n)] [(900000064, .cells 64 (k3 t))] ?_
 obtain ⟨vx_1, h1, hm⟩ := bnd_some hm
 obtain ⟨vx_2, h2, hm⟩ := bnd_some hm
 refine qS [(1, hdc [] (m_mk_Tape_Raw_ok h1) ck57), (3, hro (m_mk_Cut_ok h2) ck56)] [(4, i6 vx_2)] [(900000064, .cells 64 (k3 vx_1.2))] ?_
 cases hm
 exact A.ret qE
theorem m_mk_Tape_Range_ok {t : GTape} {low : Int} {high : Int} {r : Int × GTape} (hm : m_mk_Tape_Range t low high = some r) : SCalls Try.prog 41 [(900000064, .cells 64 (k3 t))] [.ptr 900000064 0, i6 low, i6 high] (fun a σ' => a = i6 r.1 ∧ σ' = [(900000064, .cells 64 (k3 r.2))]) := by
 refine enterA Try.func41 rfl rfl ?_
 unfold m_mk_Tape_Range at hm
 refine qS [] [(0, .ptr 900000064 0), (1, i6 low), (2, i6 high)] [(900000064, .cells 64 (k3 t))] ?_
 obtain ⟨vx_1, h1, hm⟩ := bnd_some hm
 refine qS [(6, hdc [] (m_mk_Tape_Next_ok h1) ck23)] [(6, i6 (w64 (low + vx_1.1)))] [(900000064, .cells 64 (k3 vx_1.2))] ?_
 cases hm
 exact A.ret qE
end Go.Proofs.Ytflifgcoleknlaa
