/- The jt of dK of the program. No condition but bR bw stand in each. -/
import Derived.Test.YtmfehenfoepkfaaDL1
import Derived.Test.YtmfehenfoepkfaaVN
import Derived.Test.YtmfehenfoepkfaaVX
import Derived.Test.YtmfehenfoepkfaaVL
namespace Go.Proofs.Ytmfehenfoepkfaa
open Go
set_option maxRecDepth 100000
set_option linter.all false
theorem rR {t : List Int} {r : Bool} (hm : iF t = some r) : RO Try.prog 4 [] [lf aA t] (.bool r) := by
 refine aZ Try.func4 rfl rfl ?_
 unfold iF at hm
 refine qS [] [(0, lf aA t)] [] ?_
 obtain ⟨ak, h1, hm⟩ := aa hm
 refine qS [(1, hdc [900000081] (iV h1) ck8)] [(3, .ptr 900000081 0)] [(900000081, .cells 81 (k4 ak))] ?_
 obtain ⟨aF, h2, hm⟩ := aa hm
 refine qD [(1, hdc [] (iQ h2) ck9), (2, .al 4004)] [] [(4, .ptr 4004 0)] [900000081] [(900000081, .cells 81 (k4 aF.2)), (4004, .cells 32 (k2 aF.1))] ?_
 obtain ⟨aI, h3, hm⟩ := aa hm
 refine qD [(1, hro (mg h3) aeV), (5, .al 4005)] [] [(5, .ptr 4005 0), (6, i6 aI.2)] [] [(4005, .cells 36 (k5 aI.1))] ?_
 refine A.seq ?_
 refine A.mid [(3, .ptr 900000081 0), (4, .ptr 4004 0), (5, .ptr 4005 0), (6, i6 aI.2), (38, .bool ((!decide (aI.2 = (0:Int))) || (decide ((aF.1.ay.length:Int) = (0:Int)))))] [(900000081, .cells 81 (k4 aF.2)), (4004, .cells 32 (k2 aF.1)), (4005, .cells 36 (k5 aI.1))] (fun hk => ?_) ?_
 ·rcases tf (!decide (aI.2 = (0:Int))) with c1 | c1
  ·exact qS [(2, hto (bE c1)), (7, hto (orT (q := decide ((aF.1.ay.length:Int) = (0:Int))) c1))] _ _ hk
  exact qS [(2, hto (bE c1)), (5, hto (lnE aH aF.1.ay)), (7, hto (orF (q := decide ((aF.1.ay.length:Int) = (0:Int))) c1))] _ _ hk
 rcases aq hm with ⟨c2,hm⟩|⟨c2,hm⟩
 ·refine qT c2 ?_
  rcases aq hm with ⟨c3,hm⟩|⟨c3,hm⟩
  ·obtain ⟨aU, h4, hm⟩ := aa hm
   refine qS [(2, hto (bE c3)), (3, hro (eF h4) ck7)] [(2, .bool aU)] [] ?_
   cases hm
   exact A.ret qE
  refine qS [(2, hto (bE c3))] [(2, .bool false)] [] ?_
  cases hm
  exact A.ret qE
 refine qF c2 ?_
 refine A.skip ?_
 show ah _ _ _ _ _
 obtain ⟨aX, h5, hm⟩ := aa hm
 obtain ⟨e_1, h6, hm⟩ := aa hm
 refine qD [(5, hto (lnE aH aF.1.ay)), (6, hdc [] (aO h5) gv), (7, hix (ix aH h6))] [6, 38] [(7, i6 e_1.ID)] [900000081] [(900000081, .cells 81 (k4 aX.2))] ?_
 obtain ⟨aS, h7, hm⟩ := aa hm
 obtain ⟨bh, h8, hm⟩ := aa hm
 refine qD [(3, hdc [] (qv h7) aeR), (7, hdc [] (qv h8) aeR), (8, .al 4008), (9, .al 4009)] [4, 7] [(8, .ptr 4008 0), (9, .ptr 4009 0)] [900000081, 4004] [(900000081, .cells 81 (k4 bh.2)), (4008, .cells 25 (k7 aS.1)), (4009, .cells 25 (k7 bh.1))] ?_
 refine qDs [] [] [(10, .bf), (11, .bf)] ?_
 refine A.seq ?_
 obtain ⟨cC, h9, hm⟩ := aa hm
 refine qDs [(1, hro (iy h9) aaj), (2, hto (lnE aA cC))] [] [(63, lf aA cC), (64, i6 (cC.length:Int)), (65, i6 0)] ?_
 refine A.block ?_
 refine A.bS 63 rfl fun hb1 => ?_
 obtain ⟨B1, K1, hB1, hK1, hm⟩ := aP hm
 refine A.lpI (l := cC) (j0 := 0) (B := B1) (K := K1) hm (fun j1 => fun sg => match sg with | (u_1, m_1, m_2) => [(3, .ptr 900000081 0), (5, .ptr 4005 0), (8, .ptr 4008 0), (9, .ptr 4009 0), (10, .own 600004010), (11, .bf), (63, lf aA cC), (64, i6 (cC.length:Int)), (65, i6 (j1 : Int))]) (fun j1 => fun sg => match sg with | (u_1, m_1, m_2) => [(900000081, .cells 81 [lf aA m_1, i6 m_2]), (4005, .cells 36 (k5 aI.1)), (4008, .cells 25 (k7 aS.1)), (4009, .cells 25 (k7 bh.1)), (600004010, .slice 3 1 (ml aA u_1) 0 false)]) ?_ ?_ ?_
 ·exact bp.go [.ad 10 600004010 3 1] [] (by kernel_rfl)
 ·rintro j1 e1 Z1 ⟨u_1, m_1, m_2⟩ hj1 hx1 hm
  rw [hB1] at hm
  refine qDs [] [] [(66, .bool (decide ((j1 : Int) < (cC.length:Int))))] ?_
  refine A.seq ?_
  refine qT (ltT hx1) ?_
  refine A.skip ?_
  show ah _ _ _ _ _
  obtain ⟨J1, hJ1, hm⟩ := bN hm
  refine A.J (J := J1) (r := r) (fun sg => match sg with | (u_2, m_3, m_4) => [(3, .ptr 900000081 0), (5, .ptr 4005 0), (8, .ptr 4008 0), (9, .ptr 4009 0), (10, .own 600004010), (11, .bf), (63, lf aA cC), (64, i6 (cC.length:Int)), (65, i6 (j1 : Int))]) (fun sg => match sg with | (u_2, m_3, m_4) => [(900000081, .cells 81 [lf aA m_3, i6 m_4]), (4005, .cells 36 (k5 aI.1)), (4008, .cells 25 (k7 aS.1)), (4009, .cells 25 (k7 bh.1)), (600004010, .slice 3 1 (ml aA u_2) 0 false)]) ?_ ?_
  ·refine A.block ?_
   refine qDs [(0, hix (ix aA (aY hx1)))] [66] [(13, i6 e1)] ?_
   obtain ⟨cI, h10, hm⟩ := aa hm
   refine qD [(1, hdc [] (aO h10) gv)] [] [(71, .bool (decide (cI.1 = (0:Int))))] [900000081] [(900000081, .cells 81 (k4 cI.2))] ?_
   rcases aq hm with ⟨c4,hm⟩|⟨c4,hm⟩
   ·refine qT c4 ?_
    obtain ⟨l_1, h11, hm⟩ := aa hm
    refine qG [(3, hap 4575 (ap aA (bytes := 8) (by decide) h11))] [10, 13, 71] [(10, .own 4575)] [600004010] [(4575, .slice 3 1 (ml aA l_1) 0 false)] ?_
    exact Exists.intro (l_1, cI.2.L, cI.2.At) (And.intro hm (bp.go [.sw 4575 600004010] [] (by kernel_rfl)))
   refine qF c4 ?_
   refine A.skip ?_
   exact qX (u_1, cI.2.L, cI.2.At) hm
  rintro ⟨u_2, m_3, m_4⟩ hm
  rw [hJ1] at hm
  refine qGs [(0, hto (inc hx1 hb1))] [65] [(65, i6 ((j1 + 1 : Nat) : Int))] ?_
  exact qX (u_2, m_3, m_4) hm
 rintro j1 ⟨u_1, m_1, m_2⟩ hj1 hl1 hm
 rw [hK1] at hm
 refine qDs [] [] [(66, .bool (decide ((j1 : Int) < (cC.length:Int))))] ?_
 refine A.seq ?_
 refine qF (ltF hl1) ?_
 refine A.exit ?_
 show ah _ _ _ _ _
 refine A.seq ?_
 obtain ⟨gr, h12, hm⟩ := aa hm
 refine qDs [(1, hro (iy h12) aaj), (2, hto (lnE aA gr))] [63, 64, 65, 66] [(78, lf aA gr), (79, i6 (gr.length:Int)), (80, i6 0)] ?_
 refine A.block ?_
 refine A.bS 78 rfl fun hb2 => ?_
 obtain ⟨B2, K2, hB2, hK2, hm⟩ := aP hm
 refine A.lpI (l := gr) (j0 := 0) (B := B2) (K := K2) hm (fun j2 => fun sg => match sg with | (v_1, m_5, m_6) => [(3, .ptr 900000081 0), (5, .ptr 4005 0), (8, .ptr 4008 0), (9, .ptr 4009 0), (10, .own 600004010), (11, .own 600004011), (78, lf aA gr), (79, i6 (gr.length:Int)), (80, i6 (j2 : Int))]) (fun j2 => fun sg => match sg with | (v_1, m_5, m_6) => [(900000081, .cells 81 [lf aA m_5, i6 m_6]), (4005, .cells 36 (k5 aI.1)), (4008, .cells 25 (k7 aS.1)), (4009, .cells 25 (k7 bh.1)), (600004010, .slice 3 1 (ml aA u_1) 0 false), (600004011, .slice 3 1 (ml aA v_1) 0 false)]) ?_ ?_ ?_
 ·exact bp.go [.ad 11 600004011 3 1] [] (by kernel_rfl)
 ·rintro j2 e2 Z2 ⟨v_1, m_5, m_6⟩ hj2 hx2 hm
  rw [hB2] at hm
  refine qDs [] [] [(81, .bool (decide ((j2 : Int) < (gr.length:Int))))] ?_
  refine A.seq ?_
  refine qT (ltT hx2) ?_
  refine A.skip ?_
  show ah _ _ _ _ _
  obtain ⟨J2, hJ2, hm⟩ := bN hm
  refine A.J (J := J2) (r := r) (fun sg => match sg with | (v_2, m_7, m_8) => [(3, .ptr 900000081 0), (5, .ptr 4005 0), (8, .ptr 4008 0), (9, .ptr 4009 0), (10, .own 600004010), (11, .own 600004011), (78, lf aA gr), (79, i6 (gr.length:Int)), (80, i6 (j2 : Int))]) (fun sg => match sg with | (v_2, m_7, m_8) => [(900000081, .cells 81 [lf aA m_7, i6 m_8]), (4005, .cells 36 (k5 aI.1)), (4008, .cells 25 (k7 aS.1)), (4009, .cells 25 (k7 bh.1)), (600004010, .slice 3 1 (ml aA u_1) 0 false), (600004011, .slice 3 1 (ml aA v_2) 0 false)]) ?_ ?_
  ·refine A.block ?_
   refine qDs [(0, hix (ix aA (aY hx2)))] [81] [(15, i6 e2)] ?_
   obtain ⟨eM, h13, hm⟩ := aa hm
   refine qD [(1, hdc [] (aO h13) gv)] [] [(86, .bool (decide (eM.1 = (0:Int))))] [900000081] [(900000081, .cells 81 (k4 eM.2))] ?_
   rcases aq hm with ⟨c5,hm⟩|⟨c5,hm⟩
   ·refine qT c5 ?_
    obtain ⟨l_2, h14, hm⟩ := aa hm
    refine qG [(3, hap 4590 (ap aA (bytes := 8) (by decide) h14))] [11, 15, 86] [(11, .own 4590)] [600004011] [(4590, .slice 3 1 (ml aA l_2) 0 false)] ?_
    exact Exists.intro (l_2, eM.2.L, eM.2.At) (And.intro hm (bp.go [.sw 4590 600004011] [] (by kernel_rfl)))
   refine qF c5 ?_
   refine A.skip ?_
   exact qX (v_1, eM.2.L, eM.2.At) hm
  rintro ⟨v_2, m_7, m_8⟩ hm
  rw [hJ2] at hm
  refine qGs [(0, hto (inc hx2 hb2))] [80] [(80, i6 ((j2 + 1 : Nat) : Int))] ?_
  exact qX (v_2, m_7, m_8) hm
 rintro j2 ⟨v_1, m_5, m_6⟩ hj2 hl2 hm
 rw [hK2] at hm
 refine qDs [] [] [(81, .bool (decide ((j2 : Int) < (gr.length:Int))))] ?_
 refine A.seq ?_
 refine qF (ltF hl2) ?_
 refine A.exit ?_
 show ah _ _ _ _ _
 obtain ⟨dZ, h15, hm⟩ := aa hm
 refine qD [(3, hle [600004010] (jA h15) ab3)] [3, 78, 79, 80, 81] [(16, .int .u64 dZ.1), (17, i6 dZ.2)] [900000081] [] ?_
 obtain ⟨cW, h16, hm⟩ := aa hm
 refine qD [(3, hle [600004011] (jA h16) ab3)] [5] [(18, .int .u64 cW.1), (19, i6 cW.2)] [4005] [] ?_
 refine A.seq ?_
 refine A.mid [(8, .ptr 4008 0), (9, .ptr 4009 0), (10, .own 600004010), (11, .own 600004011), (16, .int .u64 dZ.1), (18, .int .u64 cW.1), (111, .bool ((!decide (dZ.2 = (0:Int))) || (!decide (cW.2 = (0:Int)))))] [(4008, .cells 25 (k7 aS.1)), (4009, .cells 25 (k7 bh.1)), (600004010, .slice 3 1 (ml aA u_1) 0 false), (600004011, .slice 3 1 (ml aA v_1) 0 false)] (fun hk => ?_) ?_
 ·rcases tf (!decide (dZ.2 = (0:Int))) with c6 | c6
  ·exact qS [(2, hto (bE c6)), (5, hto (orT (q := !decide (cW.2 = (0:Int))) c6))] _ _ hk
  exact qS [(2, hto (bE c6)), (5, hto (orF (q := !decide (cW.2 = (0:Int))) c6))] _ _ hk
 rcases aq hm with ⟨c7,hm⟩|⟨c7,hm⟩
 ·refine qT c7 ?_
  refine qS [] [(2, .bool false)] [] ?_
  cases hm
  exact A.ret qE
 refine qF c7 ?_
 refine A.skip ?_
 show ah _ _ _ _ _
 refine qDs [] [111] [(20, i6 0)] ?_
 refine A.seq ?_
 refine qDs [] [] [(21, i6 0)] ?_
 refine A.block ?_
 obtain ⟨B3, K3, hB3, hK3, hm⟩ := mH hm
 refine A.lpN (hi := (64:Int)) (B := B3) (K := K3) hm rfl (fun j3 => fun n_1 => [(8, .ptr 4008 0), (9, .ptr 4009 0), (10, .own 600004010), (11, .own 600004011), (16, .int .u64 dZ.1), (18, .int .u64 cW.1), (20, i6 n_1), (21, i6 (j3 : Int))]) (fun j3 => fun n_1 => [(4008, .cells 25 (k7 aS.1)), (4009, .cells 25 (k7 bh.1)), (600004010, .slice 3 1 (ml aA u_1) 0 false), (600004011, .slice 3 1 (ml aA v_1) 0 false)]) ?_ ?_ ?_
 ·exact qW
 ·rintro j3 Z3 n_1 hj3 hx3 hm
  rw [hB3] at hm
  refine A.seq ?_
  refine qDs [] [] [(113, .bool (decide ((j3 : Int) < (64:Int))))] ?_
  refine A.cT rfl (decide_eq_true hx3) ?_
  refine A.skip ?_
  show ah _ _ _ _ _
  refine A.seq ?_
  refine A.block ?_
  obtain ⟨h17, hm⟩ := eP hm
  refine qGs [(4, .sh (IntKind.wrap .u64 (j3 : Int)) (of_decide_eq_true h17))] [20, 113] [(20, i6 (w64 (n_1 + (w64 (cg .and .u64 (Int.fdiv dZ.1 (2 ^ min (IntKind.wrap .u64 (j3 : Int)).toNat 64)) (1:Int))))))] ?_
  show ah _ _ _ _ _
  refine qGs [(1, hto (wV (by omega) hx3 (by decide)))] [21] [(21, i6 (j3 + 1 : Int))] ?_
  exact qX (w64 (n_1 + (w64 (cg .and .u64 (Int.fdiv dZ.1 (2 ^ min (IntKind.wrap .u64 (j3 : Int)).toNat 64)) (1:Int))))) hm
 rintro j3 n_1 hj3 hl3 hm
 rw [hK3] at hm
 refine A.seq ?_
 refine qDs [] [] [(113, .bool (decide ((j3 : Int) < (64:Int))))] ?_
 refine A.cF rfl (geF hl3) ?_
 refine A.exit ?_
 show ah _ _ _ _ _
 rcases aq hm with ⟨c8,hm⟩|⟨c8,hm⟩
 ·rcases aq hm with ⟨c9,hm⟩|⟨c9,hm⟩
  ·obtain ⟨pg, h18, hm⟩ := aa hm
   rcases aq hm with ⟨c10,hm⟩|⟨c10,hm⟩
   ·obtain ⟨gM, h19, hm⟩ := aa hm
    rcases aq hm with ⟨c11,hm⟩|⟨c11,hm⟩
    ·obtain ⟨eW, h20, hm⟩ := aa hm
     refine qS [(3, hto (lnE aJ aS.1.Links)), (5, hto (lnE aA u_1)), (8, hto (bE c8)), (14, hto (lnE aJ aS.1.Links)), (17, hto (lnE aJ bh.1.Links)), (19, hto (bE c9)), (22, hro (jx h18) ab4), (24, hto (bE c10)), (27, hle [600004010, 600004011] (kO h19) aeU), (31, hto (bE c11)), (32, hro (eF h20) ck7)] [(2, .bool eW)] [] ?_
     cases hm
     exact A.ret qE
    refine qS [(3, hto (lnE aJ aS.1.Links)), (5, hto (lnE aA u_1)), (8, hto (bE c8)), (14, hto (lnE aJ aS.1.Links)), (17, hto (lnE aJ bh.1.Links)), (19, hto (bE c9)), (22, hro (jx h18) ab4), (24, hto (bE c10)), (27, hle [600004010, 600004011] (kO h19) aeU), (31, hto (bE c11))] [(2, .bool false)] [] ?_
    cases hm
    exact A.ret qE
   rcases aq hm with ⟨c12,hm⟩|⟨c12,hm⟩
   ·obtain ⟨eX, h21, hm⟩ := aa hm
    refine qS [(3, hto (lnE aJ aS.1.Links)), (5, hto (lnE aA u_1)), (8, hto (bE c8)), (14, hto (lnE aJ aS.1.Links)), (17, hto (lnE aJ bh.1.Links)), (19, hto (bE c9)), (22, hro (jx h18) ab4), (24, hto (bE c10)), (31, hto (bE c12)), (32, hro (eF h21) ck7)] [(2, .bool eX)] [] ?_
    cases hm
    exact A.ret qE
   refine qS [(3, hto (lnE aJ aS.1.Links)), (5, hto (lnE aA u_1)), (8, hto (bE c8)), (14, hto (lnE aJ aS.1.Links)), (17, hto (lnE aJ bh.1.Links)), (19, hto (bE c9)), (22, hro (jx h18) ab4), (24, hto (bE c10)), (31, hto (bE c12))] [(2, .bool false)] [] ?_
   cases hm
   exact A.ret qE
  rcases aq hm with ⟨c13,hm⟩|⟨c13,hm⟩
  ·obtain ⟨fQ, h22, hm⟩ := aa hm
   refine qS [(3, hto (lnE aJ aS.1.Links)), (5, hto (lnE aA u_1)), (8, hto (bE c8)), (14, hto (lnE aJ aS.1.Links)), (17, hto (lnE aJ bh.1.Links)), (19, hto (bE c9)), (31, hto (bE c13)), (32, hro (eF h22) ck7)] [(2, .bool fQ)] [] ?_
   cases hm
   exact A.ret qE
  refine qS [(3, hto (lnE aJ aS.1.Links)), (5, hto (lnE aA u_1)), (8, hto (bE c8)), (14, hto (lnE aJ aS.1.Links)), (17, hto (lnE aJ bh.1.Links)), (19, hto (bE c9)), (31, hto (bE c13))] [(2, .bool false)] [] ?_
  cases hm
  exact A.ret qE
 refine qS [(3, hto (lnE aJ aS.1.Links)), (5, hto (lnE aA u_1)), (8, hto (bE c8))] [(2, .bool false)] [] ?_
 cases hm
 exact A.ret qE
end Go.Proofs.Ytmfehenfoepkfaa
