/- The walks of functions of the program. No condition but those that stand in each. -/
import Derived.Test.YtflifgcoleknlaaDA
import Derived.Test.YtflifgcoleknlaaV2
namespace Go.Proofs.Ytflifgcoleknlaa
open Go
set_option maxRecDepth 100000
set_option linter.all false
theorem m_ref06_place_ok {t : GTopology} {ra1 : Int} {r : Int} (hm : m_ref06_place t ra1 = some r) : RO Try.prog 68 [] [.agg (k2 t), i6 ra1] (i6 r) := by
 refine enterA Try.func68 rfl rfl ?_
 unfold m_ref06_place at hm
 refine qS [(0, .al 68002)] [(1, i6 ra1), (2, .ptr 68002 0)] [(68002, .cells 28 (k2 t))] ?_
 refine A.seq ?_
 refine qDs [] [] [(5, i6 0)] ?_
 refine A.block ?_
 refine A.bC 2 0 rfl rfl rfl fun hb1 => ?_
 obtain ⟨B1, K1, hB1, hK1, hm⟩ := forI_some hm
 refine A.lpI (l := t.Routers) (j0 := 0) (B := B1) (K := K1) hm (fun j1 => fun sg => match sg with | () => [(1, i6 ra1), (2, .ptr 68002 0), (5, i6 (j1 : Int))]) (fun j1 => fun sg => match sg with | () => [(68002, .cells 28 (k2 t))]) ?_ ?_ ?_
 ·exact qW
 ·rintro j1 e1 Z1 ⟨⟩ hj1 hx1 hm
  rw [hB1] at hm
  refine A.seq ?_
  refine qDs [(3, hto (lnE eGRouter t.Routers))] [] [(10, .bool (decide ((j1 : Int) < (t.Routers.length:Int))))] ?_
  refine qT (ltT hx1) ?_
  refine A.skip ?_
  show acode _ _ _ _ _
  refine A.seq ?_
  refine A.block ?_
  refine qDs [(3, hix (ix eGRouter (elO_nat hx1)))] [10] [(20, .bool (decide (e1.ID = ra1)))] ?_
  rcases cs_some hm with ⟨c1,hm⟩|⟨c1,hm⟩
  ·refine qT c1 ?_
   refine qS [] [(4, i6 (j1 : Int))] [] ?_
   cases hm
   exact A.ret qE
  refine qF c1 ?_
  refine A.skip ?_
  show acode _ _ _ _ _
  refine qGs [(1, hto (inc hx1 hb1))] [5, 20] [(5, i6 ((j1 + 1 : Nat) : Int))] ?_
  exact qX () hm
 rintro j1 ⟨⟩ hj1 hl1 hm
 rw [hK1] at hm
 refine A.seq ?_
 refine qDs [(3, hto (lnE eGRouter t.Routers))] [] [(10, .bool (decide ((j1 : Int) < (t.Routers.length:Int))))] ?_
 refine qF (ltF hl1) ?_
 refine A.exit ?_
 show acode _ _ _ _ _
 refine qS [] [(4, i6 0)] [] ?_
 cases hm
 exact A.ret qE
theorem m_ref06_To_ok {t : GTopology} {toa1 : Int} {r : (List Int)} (hm : m_ref06_To t toa1 = some r) : RO Try.prog 52 [] [.agg (k2 t), i6 toa1] (lf eInt r) := by
 refine enterA Try.func52 rfl rfl ?_
 unfold m_ref06_To at hm
 refine qS [(0, .al 52002)] [(1, i6 toa1), (2, .ptr 52002 0)] [(52002, .cells 28 (k2 t))] ?_
 obtain ⟨h1, hm⟩ := chk_some hm
 refine qD [(2, hto (lnE eGRouter t.Routers)), (3, hms (a := i6 0) 52015 (0:Int) eInt.enc (t.Routers.length:Int) app22 sli22 rfl (fun I => by simp [RepC]) h1 (by decide))] [] [(5, .own 52015)] [] [(52015, .slice 3 1 (ml eInt (List.replicate ((t.Routers.length:Int)).toNat (0:Int))) 0 false)] ?_
 refine A.seq ?_
 refine qDs [] [] [(6, i6 0)] ?_
 refine A.block ?_
 obtain ⟨F1, n1, hF1, hm⟩ := whl_some hm
 refine A.lpW (F := F1) hm (fun sg => match sg with | (d_1, i_1) => [(1, i6 toa1), (2, .ptr 52002 0), (5, .own 600052005), (6, i6 i_1)]) (fun sg => match sg with | (d_1, i_1) => [(52002, .cells 28 (k2 t)), (600052005, .slice 3 1 (ml eInt d_1) 0 false)]) ?_ ?_
 ·exact Weak.go [.sw 52015 600052005] [] (by kernel_rfl)
 rintro Z1 ⟨d_1, i_1⟩ hm
 rw [hF1] at hm
 refine A.seq ?_
 refine qDs [(2, hto (lnE eInt d_1))] [] [(19, .bool (decide (i_1 < (d_1.length:Int))))] ?_
 rcases cs_some hm with ⟨c1,hm⟩|⟨c1,hm⟩
 ·refine qT c1 ?_
  refine A.skip ?_
  show acode _ _ _ _ _
  obtain ⟨J1, hJ1, hm⟩ := jn_some hm
  refine A.J (J := J1) (r := r) (fun d_2 => [(1, i6 toa1), (2, .ptr 52002 0), (5, .own 600052005), (6, i6 i_1)]) (fun d_2 => [(52002, .cells 28 (k2 t)), (600052005, .slice 3 1 (ml eInt d_2) 0 false)]) ?_ ?_
  ·refine A.block ?_
   obtain ⟨e_1, h2, hm⟩ := bnd_some hm
   obtain ⟨l_1, h3, hm⟩ := bnd_some hm
   refine qD [(2, hix (ix eInt h2)), (3, hso 600052005 (st eInt (off := 0) (ca := [i6 1073741824]) h2 h3 rfl) (elO_some h2).1.1)] [19] [] [600052005] [(600052005, .slice 3 1 (ml eInt l_1) 0 false)] ?_
   obtain ⟨e_2, h4, hm⟩ := bnd_some hm
   refine qDs [(3, hix (ix eGRouter h4))] [] [(32, .bool (decide (e_2.ID = toa1)))] ?_
   rcases cs_some hm with ⟨c2,hm⟩|⟨c2,hm⟩
   ·refine qT c2 ?_
    obtain ⟨e_3, h5, hm⟩ := bnd_some hm
    obtain ⟨l_2, h6, hm⟩ := bnd_some hm
    refine qG [(2, hix (ix eInt h5)), (3, hso 600052005 (st eInt (off := 0) (ca := [i6 0]) h5 h6 rfl) (elO_some h5).1.1)] [32] [] [600052005] [(600052005, .slice 3 1 (ml eInt l_2) 0 false)] ?_
    exact qX l_2 hm
   refine qF c2 ?_
   refine A.skip ?_
   exact qX l_1 hm
  rintro d_2 hm
  rw [hJ1] at hm
  refine qGs [] [6] [(6, i6 (w64 (i_1 + (1:Int))))] ?_
  exact qX (d_2, w64 (i_1 + (1:Int))) hm
 refine qF c1 ?_
 refine A.exit ?_
 show acode _ _ _ _ _
 refine A.seq ?_
 refine qDs [] [1, 6, 19] [(7, i6 0)] ?_
 refine A.block ?_
 obtain ⟨F2, n2, hF2, hm⟩ := whl_some hm
 refine A.lpW (F := F2) hm (fun sg => match sg with | (d_3, round_1) => [(2, .ptr 52002 0), (5, .own 600052005), (7, i6 round_1)]) (fun sg => match sg with | (d_3, round_1) => [(52002, .cells 28 (k2 t)), (600052005, .slice 3 1 (ml eInt d_3) 0 false)]) ?_ ?_
 ·exact qW
 rintro Z2 ⟨d_3, round_1⟩ hm
 rw [hF2] at hm
 refine A.seq ?_
 refine qDs [(2, hto (lnE eInt d_3))] [] [(39, .bool (decide (round_1 < (d_3.length:Int))))] ?_
 rcases cs_some hm with ⟨c3,hm⟩|⟨c3,hm⟩
 ·refine qT c3 ?_
  refine A.skip ?_
  show acode _ _ _ _ _
  refine A.seq ?_
  refine A.block ?_
  refine qDs [] [39] [(8, i6 0)] ?_
  refine A.block ?_
  refine A.bC 2 1 rfl rfl rfl fun hb3 => ?_
  obtain ⟨B3, K3, hB3, hK3, hm⟩ := forI_some hm
  refine A.lpI (l := t.Links) (j0 := 0) (B := B3) (K := K3) hm (fun j3 => fun d_4 => [(2, .ptr 52002 0), (5, .own 600052005), (7, i6 round_1), (8, i6 (j3 : Int))]) (fun j3 => fun d_4 => [(52002, .cells 28 (k2 t)), (600052005, .slice 3 1 (ml eInt d_4) 0 false)]) ?_ ?_ ?_
  ·exact qW
  ·rintro j3 e3 Z3 d_4 hj3 hx3 hm
   rw [hB3] at hm
   refine A.seq ?_
   refine qDs [(3, hto (lnE eGLink t.Links))] [] [(46, .bool (decide ((j3 : Int) < (t.Links.length:Int))))] ?_
   refine qT (ltT hx3) ?_
   refine A.skip ?_
   show acode _ _ _ _ _
   obtain ⟨J2, hJ2, hm⟩ := jn_some hm
   refine A.J (J := J2) (r := r) (fun d_5 => [(2, .ptr 52002 0), (5, .own 600052005), (7, i6 round_1), (8, i6 (j3 : Int))]) (fun d_5 => [(52002, .cells 28 (k2 t)), (600052005, .slice 3 1 (ml eInt d_5) 0 false)]) ?_ ?_
   ·refine A.block ?_
    refine qD [(3, hix (ix eGLink (elO_nat hx3))), (5, .al 52009)] [46] [(9, .ptr 52009 0)] [] [(52009, .cells 42 (k1 e3))] ?_
    obtain ⟨vx_1, h7, hm⟩ := bnd_some hm
    obtain ⟨vx_2, h8, hm⟩ := bnd_some hm
    refine qDs [(3, hro (m_ref06_place_ok h7) ck68), (7, hro (m_ref06_place_ok h8) ck68)] [] [(10, i6 vx_1), (11, i6 vx_2)] ?_
    obtain ⟨J3, hJ3, hm⟩ := jn_some hm
    refine A.J (J := J3) (r := r) (fun d_6 => [(2, .ptr 52002 0), (5, .own 600052005), (7, i6 round_1), (8, i6 (j3 : Int)), (9, .ptr 52009 0), (10, i6 vx_1), (11, i6 vx_2)]) (fun d_6 => [(52002, .cells 28 (k2 t)), (600052005, .slice 3 1 (ml eInt d_6) 0 false), (52009, .cells 42 (k1 e3))]) ?_ ?_
    ·obtain ⟨e_4, h9, hm⟩ := bnd_some hm
     refine qDs [(2, hix (ix eInt h9)), (3, hlo 600052005 0 (ix eInt h9))] [] [(66, .bool (decide (e_4 < (1073741824:Int))))] ?_
     rcases cs_some hm with ⟨c4,hm⟩|⟨c4,hm⟩
     ·refine qT c4 ?_
      obtain ⟨e_5, h10, hm⟩ := bnd_some hm
      obtain ⟨l_3, h11, hm⟩ := bnd_some hm
      refine qG [(4, hix (ix eInt h10)), (5, hlo 600052005 0 (ix eInt h10)), (10, hix (ix eInt h9)), (11, hlo 600052005 0 (ix eInt h9)), (14, hix (ix eInt h10)), (15, hso 600052005 (st eInt (off := 0) (ca := [i6 (if (w64 (e3.CostA + e_4)) < e_5 then w64 (e3.CostA + e_4) else e_5)]) h10 h11 rfl) (elO_some h10).1.1)] [66] [] [600052005] [(600052005, .slice 3 1 (ml eInt l_3) 0 false)] ?_
      exact qX l_3 hm
     refine qF c4 ?_
     refine A.skip ?_
     exact qX d_4 hm
    rintro d_6 hm
    rw [hJ3] at hm
    obtain ⟨e_6, h12, hm⟩ := bnd_some hm
    refine qDs [(2, hix (ix eInt h12)), (3, hlo 600052005 0 (ix eInt h12))] [] [(86, .bool (decide (e_6 < (1073741824:Int))))] ?_
    rcases cs_some hm with ⟨c5,hm⟩|⟨c5,hm⟩
    ·refine qT c5 ?_
     obtain ⟨e_7, h13, hm⟩ := bnd_some hm
     obtain ⟨l_4, h14, hm⟩ := bnd_some hm
     refine qG [(4, hix (ix eInt h13)), (5, hlo 600052005 0 (ix eInt h13)), (10, hix (ix eInt h12)), (11, hlo 600052005 0 (ix eInt h12)), (14, hix (ix eInt h13)), (15, hso 600052005 (st eInt (off := 0) (ca := [i6 (if (w64 (e3.CostB + e_6)) < e_7 then w64 (e3.CostB + e_6) else e_7)]) h13 h14 rfl) (elO_some h13).1.1)] [9, 10, 11, 86] [] [600052005, 52009] [(600052005, .slice 3 1 (ml eInt l_4) 0 false)] ?_
     exact qX l_4 hm
    refine qF c5 ?_
    refine A.skip ?_
    exact qX d_6 hm
   rintro d_5 hm
   rw [hJ2] at hm
   refine qGs [(1, hto (inc hx3 hb3))] [8] [(8, i6 ((j3 + 1 : Nat) : Int))] ?_
   exact qX d_5 hm
  rintro j3 d_4 hj3 hl3 hm
  rw [hK3] at hm
  refine A.seq ?_
  refine qDs [(3, hto (lnE eGLink t.Links))] [] [(46, .bool (decide ((j3 : Int) < (t.Links.length:Int))))] ?_
  refine qF (ltF hl3) ?_
  refine A.exit ?_
  show acode _ _ _ _ _
  refine qGs [] [7, 8, 46] [(7, i6 (w64 (round_1 + (1:Int))))] ?_
  exact qX (d_4, w64 (round_1 + (1:Int))) hm
 refine qF c3 ?_
 refine A.exit ?_
 show acode _ _ _ _ _
 refine qD [] [2, 5, 7, 39] [(4, .own 600052005)] [52002] [] ?_
 refine A.ret ?_
 obtain rfl := some_inj hm
 exact A.fin W0 [.fz [600052005]] rfl (by kernel_rfl)
theorem m_ref06_At_ok {t : GTopology} {d : List Int} {ra2 : Int} {r : Int} (hm : m_ref06_At t d ra2 = some r) : RO Try.prog 55 [] [.agg (k2 t), lf eInt d, i6 ra2] (i6 r) := by
 refine enterA Try.func55 rfl rfl ?_
 unfold m_ref06_At at hm
 refine qS [(0, .al 55003)] [(1, lf eInt d), (2, i6 ra2), (3, .ptr 55003 0)] [(55003, .cells 28 (k2 t))] ?_
 refine A.seq ?_
 refine qDs [] [] [(7, i6 0)] ?_
 refine A.block ?_
 refine A.bC 3 0 rfl rfl rfl fun hb1 => ?_
 obtain ⟨B1, K1, hB1, hK1, hm⟩ := forI_some hm
 refine A.lpI (l := t.Routers) (j0 := 0) (B := B1) (K := K1) hm (fun j1 => fun sg => match sg with | () => [(1, lf eInt d), (2, i6 ra2), (3, .ptr 55003 0), (7, i6 (j1 : Int))]) (fun j1 => fun sg => match sg with | () => [(55003, .cells 28 (k2 t))]) ?_ ?_ ?_
 ·exact qW
 ·rintro j1 e1 Z1 ⟨⟩ hj1 hx1 hm
  rw [hB1] at hm
  refine A.seq ?_
  refine qDs [(3, hto (lnE eGRouter t.Routers))] [] [(12, .bool (decide ((j1 : Int) < (t.Routers.length:Int))))] ?_
  refine qT (ltT hx1) ?_
  refine A.skip ?_
  show acode _ _ _ _ _
  refine A.seq ?_
  refine A.block ?_
  refine qDs [(3, hix (ix eGRouter (elO_nat hx1)))] [12] [(22, .bool (decide (e1.ID = ra2)))] ?_
  rcases cs_some hm with ⟨c1,hm⟩|⟨c1,hm⟩
  ·refine qT c1 ?_
   obtain ⟨e_1, h1, hm⟩ := bnd_some hm
   refine qS [(2, hix (ix eInt h1))] [(6, i6 e_1)] [] ?_
   cases hm
   exact A.ret qE
  refine qF c1 ?_
  refine A.skip ?_
  show acode _ _ _ _ _
  refine qGs [(1, hto (inc hx1 hb1))] [7, 22] [(7, i6 ((j1 + 1 : Nat) : Int))] ?_
  exact qX () hm
 rintro j1 ⟨⟩ hj1 hl1 hm
 rw [hK1] at hm
 refine A.seq ?_
 refine qDs [(3, hto (lnE eGRouter t.Routers))] [] [(12, .bool (decide ((j1 : Int) < (t.Routers.length:Int))))] ?_
 refine qF (ltF hl1) ?_
 refine A.exit ?_
 show acode _ _ _ _ _
 refine qS [] [(6, i6 1073741824)] [] ?_
 cases hm
 exact A.ret qE
theorem m_ref06_Steps_ok {t : GTopology} {d : List Int} {froma2 : Int} {r : (List Int)} (hm : m_ref06_Steps t d froma2 = some r) : RO Try.prog 51 [] [.agg (k2 t), lf eInt d, i6 froma2] (lf eInt r) := by
 refine enterA Try.func51 rfl rfl ?_
 unfold m_ref06_Steps at hm
 refine qS [(0, .al 51003)] [(1, lf eInt d), (2, i6 froma2), (3, .ptr 51003 0)] [(51003, .cells 28 (k2 t))] ?_
 refine qDs [] [] [(7, .nils)] ?_
 obtain ⟨vx_1, h1, hm⟩ := bnd_some hm
 refine qDs [(3, hro (m_ref06_At_ok h1) ck55)] [] [(8, i6 vx_1)] ?_
 refine A.seq ?_
 refine A.mid [(1, lf eInt d), (2, i6 froma2), (3, .ptr 51003 0), (7, .nils), (8, i6 vx_1), (22, .bool ((decide (vx_1 = (1073741824:Int))) || (decide (vx_1 = (0:Int)))))] [(51003, .cells 28 (k2 t))] (fun hk => ?_) ?_
 ·rcases tf (decide (vx_1 = (1073741824:Int))) with c1 | c1
  ·exact qS [(2, hto (bE c1)), (5, hto (orT (q := decide (vx_1 = (0:Int))) c1))] _ _ hk
  exact qS [(2, hto (bE c1)), (5, hto (orF (q := decide (vx_1 = (0:Int))) c1))] _ _ hk
 rcases cs_some hm with ⟨c2,hm⟩|⟨c2,hm⟩
 ·refine qT c2 ?_
  refine qS [] [(6, .nils)] [] ?_
  cases hm
  exact A.ret qE
 refine qF c2 ?_
 refine A.skip ?_
 show acode _ _ _ _ _
 obtain ⟨vx_2, h2, hm⟩ := bnd_some hm
 refine qDs [(2, hro (m_ref05_Near_ok h2) ck33)] [22] [(9, lf eInt vx_2)] ?_
 refine A.seq ?_
 refine qDs [] [] [(10, i6 0)] ?_
 refine A.block ?_
 refine A.bS 9 rfl fun hb1 => ?_
 obtain ⟨B1, K1, hB1, hK1, hm⟩ := forI_some hm
 refine A.lpI (l := vx_2) (j0 := 0) (B := B1) (K := K1) hm (fun j1 => fun out_1 => [(1, lf eInt d), (2, i6 froma2), (3, .ptr 51003 0), (7, .own 600051007), (8, i6 vx_1), (9, lf eInt vx_2), (10, i6 (j1 : Int))]) (fun j1 => fun out_1 => [(51003, .cells 28 (k2 t)), (600051007, .slice 3 1 (ml eInt out_1) 0 false)]) ?_ ?_ ?_
 ·exact Weak.go [.ad 7 600051007 3 1] [] (by kernel_rfl)
 ·rintro j1 e1 Z1 out_1 hj1 hx1 hm
  rw [hB1] at hm
  refine A.seq ?_
  refine qDs [(2, hto (lnE eInt vx_2))] [] [(29, .bool (decide ((j1 : Int) < (vx_2.length:Int))))] ?_
  refine qT (ltT hx1) ?_
  refine A.skip ?_
  show acode _ _ _ _ _
  obtain ⟨J1, hJ1, hm⟩ := jn_some hm
  refine A.J (J := J1) (r := r) (fun out_2 => [(1, lf eInt d), (2, i6 froma2), (3, .ptr 51003 0), (7, .own 600051007), (8, i6 vx_1), (9, lf eInt vx_2), (10, i6 (j1 : Int))]) (fun out_2 => [(51003, .cells 28 (k2 t)), (600051007, .slice 3 1 (ml eInt out_2) 0 false)]) ?_ ?_
  ·refine A.block ?_
   obtain ⟨vx_3, h3, hm⟩ := bnd_some hm
   refine qDs [(4, hix (ix eInt (elO_nat hx1))), (6, hro (m_ref05_Price_ok h3) ck31)] [29] [(11, i6 vx_3.1)] ?_
   obtain ⟨J2, hJ2, hm⟩ := jn_some hm
   refine A.J (J := J2) (r := r) (fun v_1 => [(1, lf eInt d), (2, i6 froma2), (3, .ptr 51003 0), (7, .own 600051007), (8, i6 vx_1), (9, lf eInt vx_2), (10, i6 (j1 : Int)), (62, .bool v_1)]) (fun v_1 => [(51003, .cells 28 (k2 t)), (600051007, .slice 3 1 (ml eInt out_1) 0 false)]) ?_ ?_
   ·obtain ⟨vx_4, h4, hm⟩ := bnd_some hm
    rcases cs_some hm with ⟨c3,hm⟩|⟨c3,hm⟩
    ·obtain ⟨vx_5, h5, hm⟩ := bnd_some hm
     refine qGs [(4, hix (ix eInt (elO_nat hx1))), (6, hro (m_ref06_At_ok h4) ck55), (8, hto (bE c3)), (14, hix (ix eInt (elO_nat hx1))), (16, hro (m_ref06_At_ok h5) ck55)] [11] [(62, .bool (decide (w64 (vx_3.1 + vx_5) = vx_1)))] ?_
     exact qX (decide (w64 (vx_3.1 + vx_5) = vx_1)) hm
    refine qGs [(4, hix (ix eInt (elO_nat hx1))), (6, hro (m_ref06_At_ok h4) ck55), (8, hto (bE c3))] [11] [(62, .bool false)] ?_
    exact qX false hm
   rintro v_1 hm
   rw [hJ2] at hm
   rcases cs_some hm with ⟨c4,hm⟩|⟨c4,hm⟩
   ·refine qT c4 ?_
    obtain ⟨l_1, h6, hm⟩ := bnd_some hm
    refine qG [(3, hix (ix eInt (elO_nat hx1))), (6, hap 51569 (ap eInt (bytes := 8) (by decide) h6))] [7, 62] [(7, .own 51569)] [600051007] [(51569, .slice 3 1 (ml eInt l_1) 0 false)] ?_
    exact Exists.intro l_1 (And.intro hm (Weak.go [.sw 51569 600051007] [] (by kernel_rfl)))
   refine qF c4 ?_
   refine A.skip ?_
   exact qX out_1 hm
  rintro out_2 hm
  rw [hJ1] at hm
  refine qGs [(1, hto (inc hx1 hb1))] [10] [(10, i6 ((j1 + 1 : Nat) : Int))] ?_
  exact qX out_2 hm
 rintro j1 out_1 hj1 hl1 hm
 rw [hK1] at hm
 refine A.seq ?_
 refine qDs [(2, hto (lnE eInt vx_2))] [] [(29, .bool (decide ((j1 : Int) < (vx_2.length:Int))))] ?_
 refine qF (ltF hl1) ?_
 refine A.exit ?_
 show acode _ _ _ _ _
 refine qD [] [1, 2, 3, 7, 8, 9, 10, 29] [(6, .own 600051007)] [51003] [] ?_
 refine A.ret ?_
 obtain rfl := some_inj hm
 exact A.fin W0 [.fz [600051007]] rfl (by kernel_rfl)
theorem m_ref06_Next_ok {t : GTopology} {froma1 : Int} {toa2 : Int} {r : (List Int)} (hm : m_ref06_Next t froma1 toa2 = some r) : RO Try.prog 17 [] [.agg (k2 t), i6 froma1, i6 toa2] (lf eInt r) := by
 refine enterA Try.func17 rfl rfl ?_
 unfold m_ref06_Next at hm
 refine qS [(0, .al 17003)] [(1, i6 froma1), (2, i6 toa2), (3, .ptr 17003 0)] [(17003, .cells 28 (k2 t))] ?_
 refine A.seq ?_
 obtain ⟨J1, hJ1, hm⟩ := jn_some hm
 refine A.J (J := J1) (r := r) (fun v_1 => [(1, i6 froma1), (2, i6 toa2), (3, .ptr 17003 0), (16, .bool v_1)]) (fun v_1 => [(17003, .cells 28 (k2 t))]) ?_ ?_
 ·obtain ⟨vx_1, h1, hm⟩ := bnd_some hm
  rcases cs_some hm with ⟨c1,hm⟩|⟨c1,hm⟩
  ·refine qGs [(2, hro (m_ref05_Has_ok h1) ck50), (4, hto (bE c1))] [] [(16, .bool true)] ?_
   exact qX true hm
  obtain ⟨vx_2, h2, hm⟩ := bnd_some hm
  refine qGs [(2, hro (m_ref05_Has_ok h1) ck50), (4, hto (bE c1)), (7, hro (m_ref05_Has_ok h2) ck50)] [] [(16, .bool (!vx_2))] ?_
  exact qX (!vx_2) hm
 rintro v_1 hm
 rw [hJ1] at hm
 rcases cs_some hm with ⟨c2,hm⟩|⟨c2,hm⟩
 ·refine qT c2 ?_
  refine qS [] [(6, .nils)] [] ?_
  cases hm
  exact A.ret qE
 refine qF c2 ?_
 refine A.skip ?_
 show acode _ _ _ _ _
 obtain ⟨vx_3, h3, hm⟩ := bnd_some hm
 obtain ⟨vx_4, h4, hm⟩ := bnd_some hm
 refine qS [(3, hro (m_ref06_To_ok h3) ck52), (5, hro (m_ref06_Steps_ok h4) ck51)] [(6, lf eInt vx_4)] [] ?_
 cases hm
 exact A.ret qE
theorem m_ref06_Route_ok {t : GTopology} {froma1 : Int} {toa2 : Int} {r : (List Int)} (hm : m_ref06_Route t froma1 toa2 = some r) : RO Try.prog 19 [] [.agg (k2 t), i6 froma1, i6 toa2] (lf eInt r) := by
 refine enterA Try.func19 rfl rfl ?_
 unfold m_ref06_Route at hm
 refine qS [(0, .al 19003)] [(1, i6 froma1), (2, i6 toa2), (3, .ptr 19003 0)] [(19003, .cells 28 (k2 t))] ?_
 refine A.seq ?_
 obtain ⟨J1, hJ1, hm⟩ := jn_some hm
 refine A.J (J := J1) (r := r) (fun v_1 => [(1, i6 froma1), (2, i6 toa2), (3, .ptr 19003 0), (19, .bool v_1)]) (fun v_1 => [(19003, .cells 28 (k2 t))]) ?_ ?_
 ·obtain ⟨vx_1, h1, hm⟩ := bnd_some hm
  rcases cs_some hm with ⟨c1,hm⟩|⟨c1,hm⟩
  ·refine qGs [(2, hro (m_ref05_Has_ok h1) ck50), (4, hto (bE c1))] [] [(19, .bool true)] ?_
   exact qX true hm
  obtain ⟨vx_2, h2, hm⟩ := bnd_some hm
  refine qGs [(2, hro (m_ref05_Has_ok h1) ck50), (4, hto (bE c1)), (7, hro (m_ref05_Has_ok h2) ck50)] [] [(19, .bool (!vx_2))] ?_
  exact qX (!vx_2) hm
 rintro v_1 hm
 rw [hJ1] at hm
 rcases cs_some hm with ⟨c2,hm⟩|⟨c2,hm⟩
 ·refine qT c2 ?_
  refine qS [] [(6, .nils)] [] ?_
  cases hm
  exact A.ret qE
 refine qF c2 ?_
 refine A.skip ?_
 show acode _ _ _ _ _
 obtain ⟨vx_3, h3, hm⟩ := bnd_some hm
 refine qDs [(2, hro (m_ref06_To_ok h3) ck52)] [19] [(7, lf eInt vx_3)] ?_
 refine qDs [] [] [(8, .nils)] ?_
 refine A.seq ?_
 refine A.block ?_
 obtain ⟨F1, n1, hF1, hm⟩ := whl_some hm
 refine A.lpW (F := F1) hm (fun sg => match sg with | (vfrom_1, out_1) => [(1, i6 vfrom_1), (2, i6 toa2), (3, .ptr 19003 0), (7, lf eInt vx_3), (8, .own 600019008)]) (fun sg => match sg with | (vfrom_1, out_1) => [(19003, .cells 28 (k2 t)), (600019008, .slice 3 1 (ml eInt out_1) 0 false)]) ?_ ?_
 ·exact Weak.go [.ad 8 600019008 3 1] [] (by kernel_rfl)
 rintro Z1 ⟨vfrom_1, out_1⟩ hm
 rw [hF1] at hm
 refine A.seq ?_
 refine qDs [] [] [(25, .bool (!decide (vfrom_1 = toa2)))] ?_
 rcases cs_some hm with ⟨c3,hm⟩|⟨c3,hm⟩
 ·refine qT c3 ?_
  refine A.skip ?_
  show acode _ _ _ _ _
  refine A.block ?_
  obtain ⟨vx_4, h4, hm⟩ := bnd_some hm
  refine qDs [(3, hro (m_ref06_Steps_ok h4) ck51)] [1, 25] [(9, lf eInt vx_4)] ?_
  refine A.seq ?_
  refine qDs [(1, hto (lnE eInt vx_4))] [] [(32, .bool (decide ((vx_4.length:Int) = (0:Int))))] ?_
  rcases cs_some hm with ⟨c4,hm⟩|⟨c4,hm⟩
  ·refine qT c4 ?_
   refine qS [] [(6, .nils)] [] ?_
   cases hm
   exact A.ret qE
  refine qF c4 ?_
  refine A.skip ?_
  show acode _ _ _ _ _
  obtain ⟨e_1, h5, hm⟩ := bnd_some hm
  refine qDs [(1, hix (ix eInt h5))] [9, 32] [(1, i6 e_1)] ?_
  obtain ⟨l_1, h6, hm⟩ := bnd_some hm
  refine qG [(3, hap 19539 (ap eInt (bytes := 8) (by decide) h6))] [8] [(8, .own 19539)] [600019008] [(19539, .slice 3 1 (ml eInt l_1) 0 false)] ?_
  exact Exists.intro (e_1, l_1) (And.intro hm (Weak.go [.sw 19539 600019008] [] (by kernel_rfl)))
 refine qF c3 ?_
 refine A.exit ?_
 show acode _ _ _ _ _
 refine qD [] [1, 2, 3, 7, 8, 25] [(6, .own 600019008)] [19003] [] ?_
 refine A.ret ?_
 obtain rfl := some_inj hm
 exact A.fin W0 [.fz [600019008]] rfl (by kernel_rfl)
theorem m_ref06_Paths_ok {t : GTopology} {froma1 : Int} {toa2 : Int} {r : Int} (hm : m_ref06_Paths t froma1 toa2 = some r) : RO Try.prog 21 [] [.agg (k2 t), i6 froma1, i6 toa2] (i6 r) := by
 refine enterA Try.func21 rfl rfl ?_
 unfold m_ref06_Paths at hm
 refine qS [(0, .al 21003)] [(1, i6 froma1), (2, i6 toa2), (3, .ptr 21003 0)] [(21003, .cells 28 (k2 t))] ?_
 refine A.seq ?_
 obtain ⟨J1, hJ1, hm⟩ := jn_some hm
 refine A.J (J := J1) (r := r) (fun v_1 => [(1, i6 froma1), (2, i6 toa2), (3, .ptr 21003 0), (23, .bool v_1)]) (fun v_1 => [(21003, .cells 28 (k2 t))]) ?_ ?_
 ·obtain ⟨vx_1, h1, hm⟩ := bnd_some hm
  rcases cs_some hm with ⟨c1,hm⟩|⟨c1,hm⟩
  ·refine qGs [(2, hro (m_ref05_Has_ok h1) ck50), (4, hto (bE c1))] [] [(23, .bool true)] ?_
   exact qX true hm
  obtain ⟨vx_2, h2, hm⟩ := bnd_some hm
  refine qGs [(2, hro (m_ref05_Has_ok h1) ck50), (4, hto (bE c1)), (7, hro (m_ref05_Has_ok h2) ck50)] [] [(23, .bool (!vx_2))] ?_
  exact qX (!vx_2) hm
 rintro v_1 hm
 rw [hJ1] at hm
 rcases cs_some hm with ⟨c2,hm⟩|⟨c2,hm⟩
 ·refine qT c2 ?_
  refine qS [] [(6, i6 0)] [] ?_
  cases hm
  exact A.ret qE
 refine qF c2 ?_
 refine A.skip ?_
 show acode _ _ _ _ _
 obtain ⟨vx_3, h3, hm⟩ := bnd_some hm
 refine qDs [(2, hro (m_ref06_To_ok h3) ck52)] [23] [(7, lf eInt vx_3)] ?_
 obtain ⟨h4, hm⟩ := chk_some hm
 refine qD [(2, hto (lnE eGRouter t.Routers)), (3, hms (a := i6 0) 21030 (0:Int) eInt.enc (t.Routers.length:Int) app22 sli22 rfl (fun I => by simp [RepC]) h4 (by decide))] [] [(8, .own 21030)] [] [(21030, .slice 3 1 (ml eInt (List.replicate ((t.Routers.length:Int)).toNat (0:Int))) 0 false)] ?_
 refine A.seq ?_
 refine qDs [] [] [(9, i6 0)] ?_
 refine A.block ?_
 obtain ⟨F1, n1, hF1, hm⟩ := whl_some hm
 refine A.lpW (F := F1) hm (fun sg => match sg with | (n_1, round_1) => [(1, i6 froma1), (2, i6 toa2), (3, .ptr 21003 0), (7, lf eInt vx_3), (8, .own 600021008), (9, i6 round_1)]) (fun sg => match sg with | (n_1, round_1) => [(21003, .cells 28 (k2 t)), (600021008, .slice 3 1 (ml eInt n_1) 0 false)]) ?_ ?_
 ·exact Weak.go [.sw 21030 600021008] [] (by kernel_rfl)
 rintro Z1 ⟨n_1, round_1⟩ hm
 rw [hF1] at hm
 refine A.seq ?_
 refine qDs [(2, hto (lnE eInt n_1))] [] [(34, .bool (decide (round_1 < (n_1.length:Int))))] ?_
 rcases cs_some hm with ⟨c3,hm⟩|⟨c3,hm⟩
 ·refine qT c3 ?_
  refine A.skip ?_
  show acode _ _ _ _ _
  refine A.seq ?_
  refine A.block ?_
  obtain ⟨h5, hm⟩ := chk_some hm
  refine qD [(1, hto (lnE eInt n_1)), (2, hms (a := i6 0) 21039 (0:Int) eInt.enc (n_1.length:Int) app22 sli22 rfl (fun I => by simp [RepC]) h5 (by decide))] [34] [(10, .own 21039)] [] [(21039, .slice 3 1 (ml eInt (List.replicate ((n_1.length:Int)).toNat (0:Int))) 0 false)] ?_
  refine A.seq ?_
  refine qDs [] [] [(11, i6 0)] ?_
  refine A.block ?_
  refine A.bW 8 rfl rfl fun hb2 => ?_
  obtain ⟨B2, K2, hB2, hK2, hm⟩ := forI_some hm
  refine A.lpI (l := n_1) (j0 := 0) (B := B2) (K := K2) hm (fun j2 => fun vnext_1 => [(1, i6 froma1), (2, i6 toa2), (3, .ptr 21003 0), (7, lf eInt vx_3), (8, .own 600021008), (9, i6 round_1), (10, .own 600021010), (11, i6 (j2 : Int))]) (fun j2 => fun vnext_1 => [(21003, .cells 28 (k2 t)), (600021008, .slice 3 1 (ml eInt n_1) 0 false), (600021010, .slice 3 1 (ml eInt vnext_1) 0 false)]) ?_ ?_ ?_
  ·exact Weak.go [.sw 21039 600021010] [] (by kernel_rfl)
  ·rintro j2 e2 Z2 vnext_1 hj2 hx2 hm
   rw [hB2] at hm
   refine A.seq ?_
   refine qDs [(2, hto (lnE eInt n_1))] [] [(43, .bool (decide ((j2 : Int) < (n_1.length:Int))))] ?_
   refine qT (ltT hx2) ?_
   refine A.skip ?_
   show acode _ _ _ _ _
   obtain ⟨J2, hJ2, hm⟩ := jn_some hm
   refine A.J (J := J2) (r := r) (fun vnext_2 => [(1, i6 froma1), (2, i6 toa2), (3, .ptr 21003 0), (7, lf eInt vx_3), (8, .own 600021008), (9, i6 round_1), (10, .own 600021010), (11, i6 (j2 : Int))]) (fun vnext_2 => [(21003, .cells 28 (k2 t)), (600021008, .slice 3 1 (ml eInt n_1) 0 false), (600021010, .slice 3 1 (ml eInt vnext_2) 0 false)]) ?_ ?_
   ·refine A.block ?_
    refine A.seq ?_
    obtain ⟨e_1, h6, hm⟩ := bnd_some hm
    refine qDs [(3, hix (ix eGRouter h6))] [43] [(53, .bool (decide (e_1.ID = toa2)))] ?_
    rcases cs_some hm with ⟨c4,hm⟩|⟨c4,hm⟩
    ·refine qT c4 ?_
     obtain ⟨e_2, h7, hm⟩ := bnd_some hm
     obtain ⟨l_1, h8, hm⟩ := bnd_some hm
     refine qD [(2, hix (ix eInt h7)), (3, hso 600021010 (st eInt (off := 0) (ca := [i6 1]) h7 h8 rfl) (elO_some h7).1.1)] [53] [] [600021010] [(600021010, .slice 3 1 (ml eInt l_1) 0 false)] ?_
     refine A.exit ?_
     exact qX l_1 hm
    refine qF c4 ?_
    refine A.skip ?_
    show acode _ _ _ _ _
    obtain ⟨vx_4, h9, hm⟩ := bnd_some hm
    refine qDs [(5, hix (ix eGRouter h6)), (8, hro (m_ref06_Steps_ok h9) ck51)] [53] [(12, lf eInt vx_4)] ?_
    refine qDs [] [] [(13, i6 0)] ?_
    refine A.block ?_
    refine A.bS 12 rfl fun hb3 => ?_
    obtain ⟨B3, K3, hB3, hK3, hm⟩ := forI_some hm
    refine A.lpI (l := vx_4) (j0 := 0) (B := B3) (K := K3) hm (fun j3 => fun vnext_3 => [(1, i6 froma1), (2, i6 toa2), (3, .ptr 21003 0), (7, lf eInt vx_3), (8, .own 600021008), (9, i6 round_1), (10, .own 600021010), (11, i6 (j2 : Int)), (12, lf eInt vx_4), (13, i6 (j3 : Int))]) (fun j3 => fun vnext_3 => [(21003, .cells 28 (k2 t)), (600021008, .slice 3 1 (ml eInt n_1) 0 false), (600021010, .slice 3 1 (ml eInt vnext_3) 0 false)]) ?_ ?_ ?_
    ·exact qW
    ·rintro j3 e3 Z3 vnext_3 hj3 hx3 hm
     rw [hB3] at hm
     refine A.seq ?_
     refine qDs [(2, hto (lnE eInt vx_4))] [] [(69, .bool (decide ((j3 : Int) < (vx_4.length:Int))))] ?_
     refine qT (ltT hx3) ?_
     refine A.skip ?_
     show acode _ _ _ _ _
     refine A.seq ?_
     refine A.block ?_
     obtain ⟨e_3, h10, hm⟩ := bnd_some hm
     obtain ⟨vx_5, h11, hm⟩ := bnd_some hm
     obtain ⟨l_2, h12, hm⟩ := bnd_some hm
     refine qG [(4, hix (ix eInt h10)), (5, hlo 600021010 0 (ix eInt h10)), (10, hix (ix eInt (elO_nat hx3))), (12, hle [600021008] (m_ref06_At_ok h11) ck55), (15, hix (ix eInt h10)), (16, hso 600021010 (st eInt (off := 0) (ca := [i6 (if (w64 (e_3 + vx_5)) < (1000000:Int) then w64 (e_3 + vx_5) else (1000000:Int))]) h10 h12 rfl) (elO_some h10).1.1)] [69] [] [600021010] [(600021010, .slice 3 1 (ml eInt l_2) 0 false)] ?_
     show acode _ _ _ _ _
     refine qGs [(1, hto (inc hx3 hb3))] [13] [(13, i6 ((j3 + 1 : Nat) : Int))] ?_
     exact qX l_2 hm
    rintro j3 vnext_3 hj3 hl3 hm
    rw [hK3] at hm
    refine A.seq ?_
    refine qDs [(2, hto (lnE eInt vx_4))] [] [(69, .bool (decide ((j3 : Int) < (vx_4.length:Int))))] ?_
    refine qF (ltF hl3) ?_
    refine A.exit ?_
    exact qX vnext_3 hm
   rintro vnext_2 hm
   rw [hJ2] at hm
   refine qGs [(1, hto (inc hx2 hb2))] [11] [(11, i6 ((j2 + 1 : Nat) : Int))] ?_
   exact qX vnext_2 hm
  rintro j2 vnext_1 hj2 hl2 hm
  rw [hK2] at hm
  refine A.seq ?_
  refine qDs [(2, hto (lnE eInt n_1))] [] [(43, .bool (decide ((j2 : Int) < (n_1.length:Int))))] ?_
  refine qF (ltF hl2) ?_
  refine A.exit ?_
  show acode _ _ _ _ _
  refine qG [] [8, 10, 11, 43] [(8, .own 600021010)] [600021008] [] ?_
  show acode _ _ _ _ _
  refine qGs [] [9] [(9, i6 (w64 (round_1 + (1:Int))))] ?_
  exact Exists.intro (vnext_1, w64 (round_1 + (1:Int))) (And.intro hm (Weak.go [.sw 600021010 600021008] [] (by kernel_rfl)))
 refine qF c3 ?_
 refine A.exit ?_
 show acode _ _ _ _ _
 obtain ⟨vx_6, h13, hm⟩ := bnd_some hm
 refine qS [(3, hle [600021008] (m_ref06_At_ok h13) ck55)] [(6, i6 vx_6)] [] ?_
 cases hm
 exact A.ret qE
end Go.Proofs.Ytflifgcoleknlaa
