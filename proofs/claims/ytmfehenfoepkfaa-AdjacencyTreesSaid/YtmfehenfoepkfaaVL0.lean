/- The jt of dK of the program. No condition but bR bw stand in each. -/
import Derived.Test.YtmfehenfoepkfaaDL0
import Derived.Test.YtmfehenfoepkfaaVN
import Derived.Test.YtmfehenfoepkfaaVX
import Derived.Test.YtmfehenfoepkfaaVL
import Derived.Test.YtmfehenfoepkfaaVLB
namespace Go.Proofs.Ytmfehenfoepkfaa
open Go
set_option maxRecDepth 100000
set_option linter.all false
theorem qK {t : List Int} {raw : bB} {receivers : List Int} {r : Bool} (hm : hU t raw receivers = some r) : RO Try.prog 3 [] [lf aA t, .agg (k7 raw), lf aA receivers] (.bool r) := by
 refine aZ Try.func3 rfl rfl ?_
 unfold hU at hm
 refine qS [(0, .al 3004)] [(0, lf aA t), (2, lf aA receivers), (4, .ptr 3004 0)] [(3004, .cells 25 (k7 raw))] ?_
 refine A.seq ?_
 refine A.mid [(0, lf aA t), (2, lf aA receivers), (4, .ptr 3004 0), (30, .bool ((decide ((40:Int) < (raw.Links.length:Int))) || (decide ((40:Int) < (receivers.length:Int)))))] [(3004, .cells 25 (k7 raw))] (fun hk => ?_) ?_
 ·rcases tf (decide ((40:Int) < (raw.Links.length:Int))) with c1 | c1
  ·exact qS [(2, hto (lnE aJ raw.Links)), (4, hto (bE c1)), (8, hto (orT (q := decide ((40:Int) < (receivers.length:Int))) c1))] _ _ hk
  exact qS [(2, hto (lnE aJ raw.Links)), (4, hto (bE c1)), (6, hto (lnE aA receivers)), (8, hto (orF (q := decide ((40:Int) < (receivers.length:Int))) c1))] _ _ hk
 rcases aq hm with ⟨c2,hm⟩|⟨c2,hm⟩
 ·refine qT c2 ?_
  obtain ⟨ak, h1, hm⟩ := aa hm
  refine qS [(0, hro (eF h1) ck7)] [(6, .bool ak)] [] ?_
  cases hm
  exact A.ret qE
 refine qF c2 ?_
 refine A.skip ?_
 show ah _ _ _ _ _
 obtain ⟨aF, h2, hm⟩ := aa hm
 refine qD [(1, hdc [900000081] (iV h2) ck8)] [0, 30] [(7, .ptr 900000081 0)] [] [(900000081, .cells 81 (k4 aF))] ?_
 obtain ⟨aI, h3, hm⟩ := aa hm
 refine qD [(1, hdc [] (iQ h3) ck9), (2, .al 3008)] [] [(8, .ptr 3008 0)] [900000081] [(900000081, .cells 81 (k4 aI.2)), (3008, .cells 32 (k2 aI.1))] ?_
 obtain ⟨aU, h4, hm⟩ := aa hm
 refine qD [(2, hdc [] (pe h4) aeQ), (3, .al 3009)] [] [(9, .ptr 3009 0)] [900000081] [(900000081, .cells 81 (k4 aU.2)), (3009, .cells 36 (k5 aU.1))] ?_
 obtain ⟨aX, h5, hm⟩ := aa hm
 obtain ⟨aS, h6, hm⟩ := aa hm
 refine qD [(4, hdc [] (o9 h5) aeS), (5, hdc [] (qv h6) aeR), (6, .al 3010)] [] [(10, .ptr 3010 0)] [900000081] [(900000081, .cells 81 (k4 aS.2)), (3010, .cells 25 (k7 aS.1))] ?_
 refine A.seq ?_
 obtain ⟨bh, h7, hm⟩ := aa hm
 obtain ⟨cC, h8, hm⟩ := aa hm
 obtain ⟨cI, h9, hm⟩ := aa hm
 refine qD [(4, hdc [] (mh h7) aeT), (8, hdc [] (mh h8) aeT), (9, hdc [] (mh h9) aeT), (11, hto (lnE lV ([raw, aS.1, bh.1, cI.1] : List bB)))] [4] [(57, i6 0), (55, .lst true (ml lV ([raw, aS.1, bh.1, cI.1] : List bB))), (56, i6 (([raw, aS.1, bh.1, cI.1] : List bB).length:Int))] [3004, 900000081] [(900000081, .cells 81 (k4 cI.2))] ?_
 refine A.block ?_
 refine A.bS 55 rfl fun hb1 => ?_
 obtain ⟨B1, K1, hB1, hK1, hm⟩ := aP hm
 refine A.lpI (l := ([raw, aS.1, bh.1, cI.1] : List bB)) (j0 := 0) (B := B1) (K := K1) hm (fun j1 => fun sg => match sg with | (m_1, m_2) => [(2, lf aA receivers), (7, .ptr 900000081 0), (8, .ptr 3008 0), (9, .ptr 3009 0), (10, .ptr 3010 0), (55, .lst true (ml lV ([raw, aS.1, bh.1, cI.1] : List bB))), (56, i6 (([raw, aS.1, bh.1, cI.1] : List bB).length:Int)), (57, i6 (j1 : Int))]) (fun j1 => fun sg => match sg with | (m_1, m_2) => [(900000081, .cells 81 [lf aA m_1, i6 m_2]), (3008, .cells 32 (k2 aI.1)), (3009, .cells 36 (k5 aU.1)), (3010, .cells 25 (k7 aS.1))]) ?_ ?_ ?_
 ·exact qW
 ·rintro j1 e1 Z1 ⟨m_1, m_2⟩ hj1 hx1 hm
  rw [hB1] at hm
  refine qDs [] [] [(58, .bool (decide ((j1 : Int) < (([raw, aS.1, bh.1, cI.1] : List bB).length:Int))))] ?_
  refine A.seq ?_
  refine qT (ltT hx1) ?_
  refine A.skip ?_
  show ah _ _ _ _ _
  refine A.seq ?_
  refine A.block ?_
  refine qD [(0, hix (ix lV (aY hx1))), (2, .al 3012)] [58] [(12, .ptr 3012 0)] [] [(3012, .cells 25 (k7 e1))] ?_
  refine A.seq ?_
  obtain ⟨J1, hJ1, hm⟩ := bN hm
  refine A.J (J := J1) (r := r) (fun v_1 => [(2, lf aA receivers), (7, .ptr 900000081 0), (8, .ptr 3008 0), (9, .ptr 3009 0), (10, .ptr 3010 0), (12, .ptr 3012 0), (55, .lst true (ml lV ([raw, aS.1, bh.1, cI.1] : List bB))), (56, i6 (([raw, aS.1, bh.1, cI.1] : List bB).length:Int)), (57, i6 (j1 : Int)), (73, .bool v_1)]) (fun v_1 => [(900000081, .cells 81 [lf aA m_1, i6 m_2]), (3008, .cells 32 (k2 aI.1)), (3009, .cells 36 (k5 aU.1)), (3010, .cells 25 (k7 aS.1)), (3012, .cells 25 (k7 e1))]) ?_ ?_
  ·obtain ⟨gr, h10, hm⟩ := aa hm
   obtain ⟨eM, h11, hm⟩ := aa hm
   rcases aq hm with ⟨c3,hm⟩|⟨c3,hm⟩
   ·refine qGs [(1, hro (gE h10) ab1), (3, hro (iW h11) ab2), (5, hto (bE c3))] [] [(73, .bool true)] ?_
    exact qX true hm
   obtain ⟨dZ, h12, hm⟩ := aa hm
   obtain ⟨cW, h13, hm⟩ := aa hm
   obtain ⟨pg, h14, hm⟩ := aa hm
   refine qGs [(1, hro (gE h10) ab1), (3, hro (iW h11) ab2), (5, hto (bE c3)), (7, hro (nM h12) ald), (9, hro (iy h13) aaj), (10, hro (kO h14) aeU)] [] [(73, .bool (!pg))] ?_
   exact qX (!pg) hm
  rintro v_1 hm
  rw [hJ1] at hm
  rcases aq hm with ⟨c4,hm⟩|⟨c4,hm⟩
  ·refine qT c4 ?_
   refine qS [] [(6, .bool false)] [] ?_
   cases hm
   exact A.ret qE
  refine qF c4 ?_
  refine A.skip ?_
  show ah _ _ _ _ _
  obtain ⟨gM, h15, hm⟩ := aa hm
  refine qDs [(1, hro (iy h15) aaj)] [73] [(13, lf aA gM)] ?_
  obtain ⟨eW, h16, hm⟩ := aa hm
  refine qD [(4, hdc [] (zx h16) ck19), (6, hto (lnE (eL aA) ([receivers, gM, eW.1, []] : List (List Int))))] [13] [(81, .lst true (ml (eL aA) ([receivers, gM, eW.1, []] : List (List Int)))), (82, i6 (([receivers, gM, eW.1, []] : List (List Int)).length:Int)), (83, i6 0)] [900000081] [(900000081, .cells 81 (k4 eW.2))] ?_
  refine A.block ?_
  refine A.bS 81 rfl fun hb2 => ?_
  obtain ⟨B2, K2, hB2, hK2, hm⟩ := aP hm
  refine A.lpI (l := ([receivers, gM, eW.1, []] : List (List Int))) (j0 := 0) (B := B2) (K := K2) hm (fun j2 => fun sg => match sg with | (m_3, m_4) => [(2, lf aA receivers), (7, .ptr 900000081 0), (8, .ptr 3008 0), (9, .ptr 3009 0), (10, .ptr 3010 0), (12, .ptr 3012 0), (55, .lst true (ml lV ([raw, aS.1, bh.1, cI.1] : List bB))), (56, i6 (([raw, aS.1, bh.1, cI.1] : List bB).length:Int)), (57, i6 (j1 : Int)), (81, .lst true (ml (eL aA) ([receivers, gM, eW.1, []] : List (List Int)))), (82, i6 (([receivers, gM, eW.1, []] : List (List Int)).length:Int)), (83, i6 (j2 : Int))]) (fun j2 => fun sg => match sg with | (m_3, m_4) => [(900000081, .cells 81 [lf aA m_3, i6 m_4]), (3008, .cells 32 (k2 aI.1)), (3009, .cells 36 (k5 aU.1)), (3010, .cells 25 (k7 aS.1)), (3012, .cells 25 (k7 e1))]) ?_ ?_ ?_
  ·exact qW
  ·rintro j2 e2 Z2 ⟨m_3, m_4⟩ hj2 hx2 hm
   rw [hB2] at hm
   refine qDs [] [] [(84, .bool (decide ((j2 : Int) < (([receivers, gM, eW.1, []] : List (List Int)).length:Int))))] ?_
   refine A.seq ?_
   refine qT (ltT hx2) ?_
   refine A.skip ?_
   show ah _ _ _ _ _
   refine A.seq ?_
   refine A.block ?_
   refine qDs [(0, hix (ix (eL aA) (aY hx2)))] [84] [(15, lf aA e2)] ?_
   obtain ⟨eX, h17, hm⟩ := aa hm
   refine qD [(3, hdc [] (sC h17) ale), (5, hto (lnE fD ([aU.1, eX.1] : List aB)))] [] [(93, i6 0), (91, .lst true (ml fD ([aU.1, eX.1] : List aB))), (92, i6 (([aU.1, eX.1] : List aB).length:Int))] [900000081] [(900000081, .cells 81 (k4 eX.2))] ?_
   refine A.block ?_
   refine A.bS 91 rfl fun hb3 => ?_
   obtain ⟨B3, K3, hB3, hK3, hm⟩ := aP hm
   refine A.lpI (l := ([aU.1, eX.1] : List aB)) (j0 := 0) (B := B3) (K := K3) hm (fun j3 => fun sg => match sg with | () => [(2, lf aA receivers), (7, .ptr 900000081 0), (8, .ptr 3008 0), (9, .ptr 3009 0), (10, .ptr 3010 0), (12, .ptr 3012 0), (15, lf aA e2), (55, .lst true (ml lV ([raw, aS.1, bh.1, cI.1] : List bB))), (56, i6 (([raw, aS.1, bh.1, cI.1] : List bB).length:Int)), (57, i6 (j1 : Int)), (81, .lst true (ml (eL aA) ([receivers, gM, eW.1, []] : List (List Int)))), (82, i6 (([receivers, gM, eW.1, []] : List (List Int)).length:Int)), (83, i6 (j2 : Int)), (91, .lst true (ml fD ([aU.1, eX.1] : List aB))), (92, i6 (([aU.1, eX.1] : List aB).length:Int)), (93, i6 (j3 : Int))]) (fun j3 => fun sg => match sg with | () => [(900000081, .cells 81 (k4 eX.2)), (3008, .cells 32 (k2 aI.1)), (3009, .cells 36 (k5 aU.1)), (3010, .cells 25 (k7 aS.1)), (3012, .cells 25 (k7 e1))]) ?_ ?_ ?_
   ·exact qW
   ·rintro j3 e3 Z3 ⟨⟩ hj3 hx3 hm
    rw [hB3] at hm
    refine qDs [] [] [(94, .bool (decide ((j3 : Int) < (([aU.1, eX.1] : List aB).length:Int))))] ?_
    refine A.seq ?_
    refine qT (ltT hx3) ?_
    refine A.skip ?_
    show ah _ _ _ _ _
    refine A.seq ?_
    refine A.block ?_
    refine qD [(0, hix (ix fD (aY hx3))), (2, .al 3017)] [94] [(17, .ptr 3017 0)] [] [(3017, .cells 36 (k5 e3))] ?_
    obtain ⟨fQ, h18, hm⟩ := aa hm
    refine qDs [(3, hro (jA h18) ab3)] [] [(18, .int .u64 fQ.1), (19, i6 fQ.2)] ?_
    obtain ⟨kr, h19, hm⟩ := aa hm
    refine qD [(3, hro (x8 h19) ck22)] [17] [(20, .int .u64 kr.1), (21, i6 kr.2)] [3017] [] ?_
    refine A.mid [(2, lf aA receivers), (7, .ptr 900000081 0), (8, .ptr 3008 0), (9, .ptr 3009 0), (10, .ptr 3010 0), (12, .ptr 3012 0), (15, lf aA e2), (55, .lst true (ml lV ([raw, aS.1, bh.1, cI.1] : List bB))), (56, i6 (([raw, aS.1, bh.1, cI.1] : List bB).length:Int)), (57, i6 (j1 : Int)), (81, .lst true (ml (eL aA) ([receivers, gM, eW.1, []] : List (List Int)))), (82, i6 (([receivers, gM, eW.1, []] : List (List Int)).length:Int)), (83, i6 (j2 : Int)), (91, .lst true (ml fD ([aU.1, eX.1] : List aB))), (92, i6 (([aU.1, eX.1] : List aB).length:Int)), (93, i6 (j3 : Int)), (118, .bool ((!decide (fQ.2 = kr.2)) || (!decide (fQ.1 = kr.1))))] [(900000081, .cells 81 (k4 eX.2)), (3008, .cells 32 (k2 aI.1)), (3009, .cells 36 (k5 aU.1)), (3010, .cells 25 (k7 aS.1)), (3012, .cells 25 (k7 e1))] (fun hk => ?_) ?_
    ·rcases tf (!decide (fQ.2 = kr.2)) with c5 | c5
     ·exact qS [(3, hto (bE c5)), (7, hto (orT (q := !decide (fQ.1 = kr.1)) c5))] _ _ hk
     exact qS [(3, hto (bE c5)), (7, hto (orF (q := !decide (fQ.1 = kr.1)) c5))] _ _ hk
    rcases aq hm with ⟨c6,hm⟩|⟨c6,hm⟩
    ·refine qT c6 ?_
     refine qS [] [(6, .bool false)] [] ?_
     cases hm
     exact A.ret qE
    refine qF c6 ?_
    refine A.skip ?_
    show ah _ _ _ _ _
    refine qGs [(0, hto (inc hx3 hb3))] [93, 118] [(93, i6 ((j3 + 1 : Nat) : Int))] ?_
    exact qX () hm
   rintro j3 ⟨⟩ hj3 hl3 hm
   rw [hK3] at hm
   refine qDs [] [] [(94, .bool (decide ((j3 : Int) < (([aU.1, eX.1] : List aB).length:Int))))] ?_
   refine A.seq ?_
   refine qF (ltF hl3) ?_
   refine A.exit ?_
   show ah _ _ _ _ _
   refine qGs [(0, hto (inc hx2 hb2))] [15, 83, 91, 92, 93, 94] [(83, i6 ((j2 + 1 : Nat) : Int))] ?_
   exact qX (eX.2.L, eX.2.At) hm
  rintro j2 ⟨m_3, m_4⟩ hj2 hl2 hm
  rw [hK2] at hm
  refine qDs [] [] [(84, .bool (decide ((j2 : Int) < (([receivers, gM, eW.1, []] : List (List Int)).length:Int))))] ?_
  refine A.seq ?_
  refine qF (ltF hl2) ?_
  refine A.exit ?_
  show ah _ _ _ _ _
  refine qG [(0, hto (inc hx1 hb1))] [12, 57, 81, 82, 83, 84] [(57, i6 ((j1 + 1 : Nat) : Int))] [3012] [] ?_
  exact qX (m_3, m_4) hm
 rintro j1 ⟨m_1, m_2⟩ hj1 hl1 hm
 rw [hK1] at hm
 refine qDs [] [] [(58, .bool (decide ((j1 : Int) < (([raw, aS.1, bh.1, cI.1] : List bB).length:Int))))] ?_
 refine A.seq ?_
 refine qF (ltF hl1) ?_
 refine A.exit ?_
 show ah _ _ _ _ _
 obtain ⟨qJ, h20, hm⟩ := aa hm
 refine qS [(0, hro (eF h20) ck7)] [(6, .bool qJ)] [] ?_
 cases hm
 exact A.ret qE
end Go.Proofs.Ytmfehenfoepkfaa
