/- The jt of dK of the program. No condition but bR bw stand in each. -/
import Derived.Test.YtmfehenfoepkfaaDL3
import Derived.Test.YtmfehenfoepkfaaVN
import Derived.Test.YtmfehenfoepkfaaVX
import Derived.Test.YtmfehenfoepkfaaVL
import Derived.Test.YtmfehenfoepkfaaVLB
namespace Go.Proofs.Ytmfehenfoepkfaa
open Go
set_option maxRecDepth 100000
set_option linter.all false
theorem qd {t : List Int} {raw : aB} {p : aj} {bz : Int} {kind : Int} {rT : Int} {r : Bool} (hm : gF t raw p bz kind rT = some r) : RO Try.prog 6 [] [lf aA t, .agg (k5 raw), .agg (k2 p), i6 bz, i6 kind, i6 rT] (.bool r) := by
 refine aZ Try.func6 rfl rfl ?_
 unfold gF at hm
 refine qS [(0, .al 6007), (1, .al 6008)] [(0, lf aA t), (3, i6 bz), (4, i6 kind), (5, i6 rT), (7, .ptr 6007 0), (8, .ptr 6008 0)] [(6007, .cells 36 (k5 raw)), (6008, .cells 32 (k2 p))] ?_
 refine A.seq ?_
 obtain ⟨J1, hJ1, hm⟩ := bN hm
 refine A.J (J := J1) (r := r) (fun v_1 => [(0, lf aA t), (3, i6 bz), (4, i6 kind), (5, i6 rT), (7, .ptr 6007 0), (8, .ptr 6008 0), (46, .bool v_1)]) (fun v_1 => [(6007, .cells 36 (k5 raw)), (6008, .cells 32 (k2 p))]) ?_ ?_
 ·obtain ⟨ak, h1, hm⟩ := aa hm
  rcases aq hm with ⟨c1,hm⟩|⟨c1,hm⟩
  ·refine qGs [(1, hro (rQ h1) alf), (3, hto (bE c1))] [] [(46, .bool true)] ?_
   exact qX true hm
  obtain ⟨aF, h2, hm⟩ := aa hm
  refine qGs [(1, hro (rQ h1) alf), (3, hto (bE c1)), (5, hro (sQ h2) ck30)] [] [(46, .bool (!aF))] ?_
  exact qX (!aF) hm
 rintro v_1 hm
 rw [hJ1] at hm
 rcases aq hm with ⟨c2,hm⟩|⟨c2,hm⟩
 ·refine qT c2 ?_
  obtain ⟨aI, h3, hm⟩ := aa hm
  refine qS [(0, hro (eF h3) ck7)] [(12, .bool aI)] [] ?_
  cases hm
  exact A.ret qE
 refine qF c2 ?_
 refine A.skip ?_
 show ah _ _ _ _ _
 obtain ⟨aU, h4, hm⟩ := aa hm
 refine qD [(1, hdc [900000081] (iV h4) ck8)] [0, 46] [(13, .ptr 900000081 0)] [] [(900000081, .cells 81 (k4 aU))] ?_
 obtain ⟨aX, h5, hm⟩ := aa hm
 refine qD [(1, hdc [] (iQ h5) ck9), (2, .al 6014)] [] [(14, .ptr 6014 0)] [900000081] [(900000081, .cells 81 (k4 aX.2)), (6014, .cells 32 (k2 aX.1))] ?_
 obtain ⟨aS, h6, hm⟩ := aa hm
 refine qD [(2, hdc [] (pe h6) aeQ), (3, .al 6015)] [] [(15, .ptr 6015 0)] [900000081] [(900000081, .cells 81 (k4 aS.2)), (6015, .cells 36 (k5 aS.1))] ?_
 refine A.seq ?_
 obtain ⟨bh, h7, hm⟩ := aa hm
 refine qD [(4, hdc [] (sC h7) ale), (6, hto (lnE fD ([raw, aS.1, bh.1] : List aB)))] [7] [(62, i6 0), (60, .lst true (ml fD ([raw, aS.1, bh.1] : List aB))), (61, i6 (([raw, aS.1, bh.1] : List aB).length:Int))] [6007, 900000081] [(900000081, .cells 81 (k4 bh.2))] ?_
 refine A.block ?_
 refine A.bS 60 rfl fun hb1 => ?_
 obtain ⟨B1, K1, hB1, hK1, hm⟩ := aP hm
 refine A.lpI (l := ([raw, aS.1, bh.1] : List aB)) (j0 := 0) (B := B1) (K := K1) hm (fun j1 => fun sg => match sg with | (m_1, m_2) => [(3, i6 bz), (4, i6 kind), (5, i6 rT), (8, .ptr 6008 0), (13, .ptr 900000081 0), (14, .ptr 6014 0), (15, .ptr 6015 0), (60, .lst true (ml fD ([raw, aS.1, bh.1] : List aB))), (61, i6 (([raw, aS.1, bh.1] : List aB).length:Int)), (62, i6 (j1 : Int))]) (fun j1 => fun sg => match sg with | (m_1, m_2) => [(6008, .cells 32 (k2 p)), (900000081, .cells 81 [lf aA m_1, i6 m_2]), (6014, .cells 32 (k2 aX.1)), (6015, .cells 36 (k5 aS.1))]) ?_ ?_ ?_
 ·exact qW
 ·rintro j1 e1 Z1 ⟨m_1, m_2⟩ hj1 hx1 hm
  rw [hB1] at hm
  refine qDs [] [] [(63, .bool (decide ((j1 : Int) < (([raw, aS.1, bh.1] : List aB).length:Int))))] ?_
  refine A.seq ?_
  refine qT (ltT hx1) ?_
  refine A.skip ?_
  show ah _ _ _ _ _
  refine A.seq ?_
  refine A.block ?_
  refine qD [(0, hix (ix fD (aY hx1))), (2, .al 6017)] [63] [(17, .ptr 6017 0)] [] [(6017, .cells 36 (k5 e1))] ?_
  refine A.seq ?_
  obtain ⟨J2, hJ2, hm⟩ := bN hm
  refine A.J (J := J2) (r := r) (fun v_2 => [(3, i6 bz), (4, i6 kind), (5, i6 rT), (8, .ptr 6008 0), (13, .ptr 900000081 0), (14, .ptr 6014 0), (15, .ptr 6015 0), (17, .ptr 6017 0), (60, .lst true (ml fD ([raw, aS.1, bh.1] : List aB))), (61, i6 (([raw, aS.1, bh.1] : List aB).length:Int)), (62, i6 (j1 : Int)), (79, .bool v_2)]) (fun v_2 => [(6008, .cells 32 (k2 p)), (900000081, .cells 81 [lf aA m_1, i6 m_2]), (6014, .cells 32 (k2 aX.1)), (6015, .cells 36 (k5 aS.1)), (6017, .cells 36 (k5 e1))]) ?_ ?_
  ·obtain ⟨cC, h8, hm⟩ := aa hm
   obtain ⟨cI, h9, hm⟩ := aa hm
   rcases aq hm with ⟨c3,hm⟩|⟨c3,hm⟩
   ·refine qGs [(1, hro (ez h8) yH), (3, hro (fK h9) yI), (5, hto (bE c3))] [] [(79, .bool true)] ?_
    exact qX true hm
   obtain ⟨gr, h10, hm⟩ := aa hm
   obtain ⟨eM, h11, hm⟩ := aa hm
   refine qGs [(1, hro (ez h8) yH), (3, hro (fK h9) yI), (5, hto (bE c3)), (8, hro (uE h10) ck33), (11, hro (sB h11) alg)] [] [(79, .bool (!(gr == eM)))] ?_
   exact qX (!(gr == eM)) hm
  rintro v_2 hm
  rw [hJ2] at hm
  rcases aq hm with ⟨c4,hm⟩|⟨c4,hm⟩
  ·refine qT c4 ?_
   refine qS [] [(12, .bool false)] [] ?_
   cases hm
   exact A.ret qE
  refine qF c4 ?_
  refine A.skip ?_
  show ah _ _ _ _ _
  refine A.seq ?_
  obtain ⟨dZ, h12, hm⟩ := aa hm
  obtain ⟨cW, h13, hm⟩ := aa hm
  refine qD [(4, hdc [] (oD h12) alh), (6, hdc [] (iQ h13) ck9), (8, hto (lnE eU ([p, aX.1, dZ.1, cW.1] : List aj)))] [79] [(89, i6 0), (87, .lst true (ml eU ([p, aX.1, dZ.1, cW.1] : List aj))), (88, i6 (([p, aX.1, dZ.1, cW.1] : List aj).length:Int))] [900000081] [(900000081, .cells 81 (k4 cW.2))] ?_
  refine A.block ?_
  refine A.bS 87 rfl fun hb2 => ?_
  obtain ⟨B2, K2, hB2, hK2, hm⟩ := aP hm
  refine A.lpI (l := ([p, aX.1, dZ.1, cW.1] : List aj)) (j0 := 0) (B := B2) (K := K2) hm (fun j2 => fun sg => match sg with | () => [(3, i6 bz), (4, i6 kind), (5, i6 rT), (8, .ptr 6008 0), (13, .ptr 900000081 0), (14, .ptr 6014 0), (15, .ptr 6015 0), (17, .ptr 6017 0), (60, .lst true (ml fD ([raw, aS.1, bh.1] : List aB))), (61, i6 (([raw, aS.1, bh.1] : List aB).length:Int)), (62, i6 (j1 : Int)), (87, .lst true (ml eU ([p, aX.1, dZ.1, cW.1] : List aj))), (88, i6 (([p, aX.1, dZ.1, cW.1] : List aj).length:Int)), (89, i6 (j2 : Int))]) (fun j2 => fun sg => match sg with | () => [(6008, .cells 32 (k2 p)), (900000081, .cells 81 (k4 cW.2)), (6014, .cells 32 (k2 aX.1)), (6015, .cells 36 (k5 aS.1)), (6017, .cells 36 (k5 e1))]) ?_ ?_ ?_
  ·exact qW
  ·rintro j2 e2 Z2 ⟨⟩ hj2 hx2 hm
   rw [hB2] at hm
   refine qDs [] [] [(90, .bool (decide ((j2 : Int) < (([p, aX.1, dZ.1, cW.1] : List aj).length:Int))))] ?_
   refine A.seq ?_
   refine qT (ltT hx2) ?_
   refine A.skip ?_
   show ah _ _ _ _ _
   refine A.seq ?_
   refine A.block ?_
   refine qD [(0, hix (ix eU (aY hx2))), (2, .al 6019)] [90] [(19, .ptr 6019 0)] [] [(6019, .cells 32 (k2 e2))] ?_
   obtain ⟨pg, h14, hm⟩ := aa hm
   obtain ⟨gM, h15, hm⟩ := aa hm
   refine qD [(2, hro (mc h14) aeX), (5, hro (x7 h15) ck36)] [19] [(99, .bool (!decide (pg = gM)))] [6019] [] ?_
   rcases aq hm with ⟨c5,hm⟩|⟨c5,hm⟩
   ·refine qT c5 ?_
    refine qS [] [(12, .bool false)] [] ?_
    cases hm
    exact A.ret qE
   refine qF c5 ?_
   refine A.skip ?_
   show ah _ _ _ _ _
   refine qGs [(0, hto (inc hx2 hb2))] [89, 99] [(89, i6 ((j2 + 1 : Nat) : Int))] ?_
   exact qX () hm
  rintro j2 ⟨⟩ hj2 hl2 hm
  rw [hK2] at hm
  refine qDs [] [] [(90, .bool (decide ((j2 : Int) < (([p, aX.1, dZ.1, cW.1] : List aj).length:Int))))] ?_
  refine A.seq ?_
  refine qF (ltF hl2) ?_
  refine A.exit ?_
  show ah _ _ _ _ _
  obtain ⟨eW, h16, hm⟩ := aa hm
  obtain ⟨eX, h17, hm⟩ := aa hm
  obtain ⟨fQ, h18, hm⟩ := aa hm
  refine qD [(2, hdc [] (o9 h16) aeS), (4, hdc [] (cN h17) xb), (7, hdc [] (o9 h18) aeS)] [87, 88, 89, 90] [(20, i6 eW.1), (21, i6 eX.1), (22, i6 fQ.1)] [900000081] [(900000081, .cells 81 (k4 fQ.2))] ?_
  obtain ⟨kr, h19, hm⟩ := aa hm
  refine qDs [(4, hro (me h19) aeW)] [] [(23, i6 kr.1), (24, .bool kr.2)] ?_
  obtain ⟨qJ, h20, hm⟩ := aa hm
  refine qDs [(4, hro (mw h20) ab5)] [] [(25, i6 qJ.1), (26, .bool qJ.2)] ?_
  obtain ⟨yb, h21, hm⟩ := aa hm
  refine qDs [(4, hro (me h21) aeW)] [] [(27, i6 yb.1), (28, .bool yb.2)] ?_
  obtain ⟨yc, h22, hm⟩ := aa hm
  refine qDs [(4, hro (mw h22) ab5)] [21, 22] [(29, i6 yc.1), (30, .bool yc.2)] ?_
  obtain ⟨J3, hJ3, hm⟩ := bN hm
  refine A.J (J := J3) (r := r) (fun v_3 => [(3, i6 bz), (4, i6 kind), (5, i6 rT), (8, .ptr 6008 0), (13, .ptr 900000081 0), (14, .ptr 6014 0), (15, .ptr 6015 0), (60, .lst true (ml fD ([raw, aS.1, bh.1] : List aB))), (61, i6 (([raw, aS.1, bh.1] : List aB).length:Int)), (62, i6 (j1 : Int)), (176, .bool v_3)]) (fun v_3 => [(6008, .cells 32 (k2 p)), (900000081, .cells 81 (k4 fQ.2)), (6014, .cells 32 (k2 aX.1)), (6015, .cells 36 (k5 aS.1))]) ?_ ?_
  ·rcases aq hm with ⟨c6,hm⟩|⟨c6,hm⟩
   ·refine qG [(3, hto (bE c6))] [17, 20, 23, 24, 25, 26, 27, 28, 29, 30] [(176, .bool true)] [6017] [] ?_
    exact qX true hm
   rcases aq hm with ⟨c7,hm⟩|⟨c7,hm⟩
   ·refine qG [(3, hto (bE c6)), (8, hto (bE c7))] [17, 20, 23, 24, 25, 26, 27, 28, 29, 30] [(176, .bool true)] [6017] [] ?_
    exact qX true hm
   rcases aq hm with ⟨c8,hm⟩|⟨c8,hm⟩
   ·refine qG [(3, hto (bE c6)), (8, hto (bE c7)), (13, hto (bE c8))] [17, 20, 23, 24, 25, 26, 27, 28, 29, 30] [(176, .bool true)] [6017] [] ?_
    exact qX true hm
   rcases aq hm with ⟨c9,hm⟩|⟨c9,hm⟩
   ·refine qG [(3, hto (bE c6)), (8, hto (bE c7)), (13, hto (bE c8)), (18, hto (bE c9))] [17, 20, 23, 24, 25, 26, 27, 28, 29, 30] [(176, .bool true)] [6017] [] ?_
    exact qX true hm
   obtain ⟨af6, h23, hm⟩ := aa hm
   obtain ⟨af7, h24, hm⟩ := aa hm
   rcases aq hm with ⟨c10,hm⟩|⟨c10,hm⟩
   ·refine qG [(3, hto (bE c6)), (8, hto (bE c7)), (13, hto (bE c8)), (18, hto (bE c9)), (21, hro (iC h23) aak), (24, hro (pS h24) aeY), (27, hto (bE c10))] [17, 20, 23, 24, 25, 26, 27, 28, 29, 30] [(176, .bool true)] [6017] [] ?_
    exact qX true hm
   obtain ⟨zG, h25, hm⟩ := aa hm
   obtain ⟨zH, h26, hm⟩ := aa hm
   refine qG [(3, hto (bE c6)), (8, hto (bE c7)), (13, hto (bE c8)), (18, hto (bE c9)), (21, hro (iC h23) aak), (24, hro (pS h24) aeY), (27, hto (bE c10)), (30, hro (iC h25) aak), (33, hro (pS h26) aeY)] [17, 20, 23, 24, 25, 26, 27, 28, 29, 30] [(176, .bool (!decide (zG = zH)))] [6017] [] ?_
   exact qX (!decide (zG = zH)) hm
  rintro v_3 hm
  rw [hJ3] at hm
  rcases aq hm with ⟨c11,hm⟩|⟨c11,hm⟩
  ·refine qT c11 ?_
   refine qS [] [(12, .bool false)] [] ?_
   cases hm
   exact A.ret qE
  refine qF c11 ?_
  refine A.skip ?_
  show ah _ _ _ _ _
  refine qGs [(0, hto (inc hx1 hb1))] [62, 176] [(62, i6 ((j1 + 1 : Nat) : Int))] ?_
  exact qX (fQ.2.L, fQ.2.At) hm
 rintro j1 ⟨m_1, m_2⟩ hj1 hl1 hm
 rw [hK1] at hm
 refine qDs [] [] [(63, .bool (decide ((j1 : Int) < (([raw, aS.1, bh.1] : List aB).length:Int))))] ?_
 refine A.seq ?_
 refine qF (ltF hl1) ?_
 refine A.exit ?_
 show ah _ _ _ _ _
 refine A.seq ?_
 obtain ⟨jT, h27, hm⟩ := aa hm
 refine qS [(4, hdc [] (oD h27) alh), (6, hto (lnE eU ([p, aX.1, jT.1] : List aj)))] [(3, i6 bz), (13, .ptr 900000081 0), (185, i6 0), (183, .lst true (ml eU ([p, aX.1, jT.1] : List aj))), (184, i6 (([p, aX.1, jT.1] : List aj).length:Int))] [(900000081, .cells 81 (k4 jT.2))] ?_
 refine A.block ?_
 refine A.bS 183 rfl fun hb3 => ?_
 obtain ⟨B3, K3, hB3, hK3, hm⟩ := aP hm
 refine A.lpI (l := ([p, aX.1, jT.1] : List aj)) (j0 := 0) (B := B3) (K := K3) hm (fun j3 => fun sg => match sg with | (m_3, m_4) => [(3, i6 bz), (13, .ptr 900000081 0), (183, .lst true (ml eU ([p, aX.1, jT.1] : List aj))), (184, i6 (([p, aX.1, jT.1] : List aj).length:Int)), (185, i6 (j3 : Int))]) (fun j3 => fun sg => match sg with | (m_3, m_4) => [(900000081, .cells 81 [lf aA m_3, i6 m_4])]) ?_ ?_ ?_
 ·exact qW
 ·rintro j3 e3 Z3 ⟨m_3, m_4⟩ hj3 hx3 hm
  rw [hB3] at hm
  refine qDs [] [] [(186, .bool (decide ((j3 : Int) < (([p, aX.1, jT.1] : List aj).length:Int))))] ?_
  refine A.seq ?_
  refine qT (ltT hx3) ?_
  refine A.skip ?_
  show ah _ _ _ _ _
  refine A.seq ?_
  refine A.block ?_
  refine qD [(0, hix (ix eU (aY hx3))), (2, .al 6032)] [186] [(32, .ptr 6032 0)] [] [(6032, .cells 32 (k2 e3))] ?_
  obtain ⟨iX, h28, hm⟩ := aa hm
  refine qD [(3, hdc [] (bF h28) mJ), (5, hto (lnE aA ([bz, iX.1] : List Int)))] [] [(193, .lst true (ml aA ([bz, iX.1] : List Int))), (194, i6 (([bz, iX.1] : List Int).length:Int)), (195, i6 0)] [900000081] [(900000081, .cells 81 (k4 iX.2))] ?_
  refine A.block ?_
  refine A.bS 193 rfl fun hb4 => ?_
  obtain ⟨B4, K4, hB4, hK4, hm⟩ := aP hm
  refine A.lpI (l := ([bz, iX.1] : List Int)) (j0 := 0) (B := B4) (K := K4) hm (fun j4 => fun sg => match sg with | () => [(3, i6 bz), (13, .ptr 900000081 0), (32, .ptr 6032 0), (183, .lst true (ml eU ([p, aX.1, jT.1] : List aj))), (184, i6 (([p, aX.1, jT.1] : List aj).length:Int)), (185, i6 (j3 : Int)), (193, .lst true (ml aA ([bz, iX.1] : List Int))), (194, i6 (([bz, iX.1] : List Int).length:Int)), (195, i6 (j4 : Int))]) (fun j4 => fun sg => match sg with | () => [(900000081, .cells 81 (k4 iX.2)), (6032, .cells 32 (k2 e3))]) ?_ ?_ ?_
  ·exact qW
  ·rintro j4 e4 Z4 ⟨⟩ hj4 hx4 hm
   rw [hB4] at hm
   refine qDs [] [] [(196, .bool (decide ((j4 : Int) < (([bz, iX.1] : List Int).length:Int))))] ?_
   refine A.seq ?_
   refine qT (ltT hx4) ?_
   refine A.skip ?_
   show ah _ _ _ _ _
   refine A.seq ?_
   refine A.block ?_
   refine qDs [(0, hix (ix aA (aY hx4)))] [196] [(34, i6 e4)] ?_
   obtain ⟨yd, h29, hm⟩ := aa hm
   refine qD [(2, hro (mg h29) aeV), (6, .al 6035)] [] [(35, .ptr 6035 0), (36, i6 yd.2)] [] [(6035, .cells 36 (k5 yd.1))] ?_
   obtain ⟨ye, h30, hm⟩ := aa hm
   refine qD [(2, hro (sA h30) ali), (6, .al 6037)] [34] [(37, .ptr 6037 0), (38, i6 ye.2)] [] [(6037, .cells 36 (k5 ye.1))] ?_
   obtain ⟨J4, hJ4, hm⟩ := bN hm
   refine A.J (J := J4) (r := r) (fun v_4 => [(3, i6 bz), (13, .ptr 900000081 0), (32, .ptr 6032 0), (183, .lst true (ml eU ([p, aX.1, jT.1] : List aj))), (184, i6 (([p, aX.1, jT.1] : List aj).length:Int)), (185, i6 (j3 : Int)), (193, .lst true (ml aA ([bz, iX.1] : List Int))), (194, i6 (([bz, iX.1] : List Int).length:Int)), (195, i6 (j4 : Int)), (219, .bool v_4)]) (fun v_4 => [(900000081, .cells 81 (k4 iX.2)), (6032, .cells 32 (k2 e3))]) ?_ ?_
   ·rcases aq hm with ⟨c12,hm⟩|⟨c12,hm⟩
    ·refine qG [(3, hto (bE c12))] [35, 36, 37, 38] [(219, .bool true)] [6035, 6037] [] ?_
     exact qX true hm
    obtain ⟨zI, h31, hm⟩ := aa hm
    refine qG [(3, hto (bE c12)), (6, hro (sB h31) alg)] [35, 36, 37, 38] [(219, .bool (!zI))] [6035, 6037] [] ?_
    exact qX (!zI) hm
   rintro v_4 hm
   rw [hJ4] at hm
   rcases aq hm with ⟨c13,hm⟩|⟨c13,hm⟩
   ·refine qT c13 ?_
    refine qS [] [(12, .bool false)] [] ?_
    cases hm
    exact A.ret qE
   refine qF c13 ?_
   refine A.skip ?_
   show ah _ _ _ _ _
   refine qGs [(0, hto (inc hx4 hb4))] [195, 219] [(195, i6 ((j4 + 1 : Nat) : Int))] ?_
   exact qX () hm
  rintro j4 ⟨⟩ hj4 hl4 hm
  rw [hK4] at hm
  refine qDs [] [] [(196, .bool (decide ((j4 : Int) < (([bz, iX.1] : List Int).length:Int))))] ?_
  refine A.seq ?_
  refine qF (ltF hl4) ?_
  refine A.exit ?_
  show ah _ _ _ _ _
  refine qG [(0, hto (inc hx3 hb3))] [32, 185, 193, 194, 195, 196] [(185, i6 ((j3 + 1 : Nat) : Int))] [6032] [] ?_
  exact qX (iX.2.L, iX.2.At) hm
 rintro j3 ⟨m_3, m_4⟩ hj3 hl3 hm
 rw [hK3] at hm
 refine qDs [] [] [(186, .bool (decide ((j3 : Int) < (([p, aX.1, jT.1] : List aj).length:Int))))] ?_
 refine A.seq ?_
 refine qF (ltF hl3) ?_
 refine A.exit ?_
 show ah _ _ _ _ _
 obtain ⟨ab9, h32, hm⟩ := aa hm
 refine qS [(0, hro (eF h32) ck7)] [(12, .bool ab9)] [] ?_
 cases hm
 exact A.ret qE
end Go.Proofs.Ytmfehenfoepkfaa
