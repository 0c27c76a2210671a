/- The eC of cr of the program. No condition but bT bB stand in each. -/
import Derived.Test.YtpmifmdidfgpdaaGreatDA
import Derived.Test.YtpmifmdidfgpdaaGreatV1
namespace Go.Proofs.YtpmifmdidfgpdaaGreat
open Go
set_option maxRecDepth 100000
set_option linter.all false
theorem di {t : aR} {l : List Int} {r : Int × aR} (hm : cR t l = some r) : bM Tryz.prog 50 [(900000074, .cells 74 (k3 t))] [.ptr 900000074 0, lf bL l] (fun a σ' => a = i6 r.1 ∧ σ' = [(900000074, .cells 74 (k3 r.2))]) := by
 refine aT Tryz.func50 rfl rfl ?_
 unfold cR at hm
 refine qS [] [(0, .ptr 900000074 0), (1, lf bL l)] [(900000074, .cells 74 (k3 t))] ?_
 obtain ⟨af, h1, hm⟩ := aa hm
 obtain ⟨e_1, h2, hm⟩ := aa hm
 refine qS [(3, hto (lnE bL l)), (4, hdc [] (bO h1) iN), (5, hix (ix bL h2))] [(4, i6 e_1)] [(900000074, .cells 74 (k3 af.2))] ?_
 cases hm
 exact A.ret qE
theorem gI {t : aR} {n : Int} {r : Bool × aR} (hm : fc t n = some r) : bM Tryz.prog 46 [(900000074, .cells 74 (k3 t))] [.ptr 900000074 0, i6 n] (fun a σ' => a = .bool r.1 ∧ σ' = [(900000074, .cells 74 (k3 r.2))]) := by
 refine aT Tryz.func46 rfl rfl ?_
 unfold fc at hm
 refine qS [] [(0, .ptr 900000074 0), (1, i6 n)] [(900000074, .cells 74 (k3 t))] ?_
 obtain ⟨af, h1, hm⟩ := aa hm
 refine qS [(2, hdc [] (bO h1) iN)] [(4, .bool (decide (af.1 = w64 (n - (1:Int)))))] [(900000074, .cells 74 (k3 af.2))] ?_
 cases hm
 exact A.ret qE
theorem gv {t : aR} {r : Int × aR} (hm : eE t = some r) : bM Tryz.prog 48 [(900000074, .cells 74 (k3 t))] [.ptr 900000074 0] (fun a σ' => a = i6 r.1 ∧ σ' = [(900000074, .cells 74 (k3 r.2))]) := by
 refine aT Tryz.func48 rfl rfl ?_
 unfold eE at hm
 refine qS [] [(0, .ptr 900000074 0)] [(900000074, .cells 74 (k3 t))] ?_
 obtain ⟨af, h1, hm⟩ := aa hm
 refine qS [(2, hdc [] (di h1) qw)] [(2, i6 af.1)] [(900000074, .cells 74 (k3 af.2))] ?_
 cases hm
 exact A.ret qE
theorem ri {t : aR} {r : Int × aR} (hm : iP t = some r) : bM Tryz.prog 52 [(900000074, .cells 74 (k3 t))] [.ptr 900000074 0] (fun a σ' => a = i6 r.1 ∧ σ' = [(900000074, .cells 74 (k3 r.2))]) := by
 refine aT Tryz.func52 rfl rfl ?_
 unfold iP at hm
 refine qS [] [(0, .ptr 900000074 0)] [(900000074, .cells 74 (k3 t))] ?_
 obtain ⟨af, h1, hm⟩ := aa hm
 refine qS [(2, hdc [] (di h1) qw)] [(2, i6 af.1)] [(900000074, .cells 74 (k3 af.2))] ?_
 cases hm
 exact A.ret qE
theorem abr {l : List aQ} {r : (List aQ)} (hm : qx l = some r) : bM Tryz.prog 86 [] [lf az l] (fun a σ' => a = .own 500008600 ∧ σ' = [(500008600, .slice 78 5 (ml az r) 0 false)]) := by
 refine aT Tryz.func86 rfl rfl ?_
 unfold qx at hm
 refine qS [] [(0, lf az l)] [] ?_
 refine qDs [] [] [(3, .aG)] ?_
 refine A.seq ?_
 refine qDs [] [] [(4, i6 0)] ?_
 refine A.block ?_
 refine A.bS 0 rfl fun hb1 => ?_
 obtain ⟨B1, K1, hB1, hK1, hm⟩ := bt hm
 refine A.lpI (l := l) (j0 := 0) (B := B1) (K := K1) hm (fun j1 => fun dx => [(0, lf az l), (3, .own 600086003), (4, i6 (j1 : Int))]) (fun j1 => fun dx => [(600086003, .slice 78 5 (ml az dx) 0 false)]) ?_ ?_ ?_
 ·exact bA.go [.ad 3 600086003 78 5] [] (by kernel_rfl)
 ·rintro j1 e1 Z1 dx hj1 hx1 hm
  rw [hB1] at hm
  refine A.seq ?_
  refine qDs [(2, hto (lnE az l))] [] [(10, .bool (decide ((j1 : Int) < (l.length:Int))))] ?_
  refine qT (ltT hx1) ?_
  refine A.skip ?_
  show ah _ _ _ _ _
  refine A.seq ?_
  refine A.block ?_
  refine qDs [] [10] [(5, i6 0)] ?_
  refine A.seq ?_
  refine A.block ?_
  obtain ⟨F2, n2, hF2, hm⟩ := fC hm
  refine A.lpW (F := F2) hm (fun nS => [(0, lf az l), (3, .own 600086003), (4, i6 (j1 : Int)), (5, i6 nS)]) (fun nS => [(600086003, .slice 78 5 (ml az dx) 0 false)]) ?_ ?_
  ·exact qW
  rintro Z2 nS hm
  rw [hF2] at hm
  refine A.seq ?_
  obtain ⟨J1, hJ1, hm⟩ := bJ hm
  refine A.J (J := J1) (r := r) (fun v_1 => [(0, lf az l), (3, .own 600086003), (4, i6 (j1 : Int)), (5, i6 nS), (55, .bool v_1)]) (fun v_1 => [(600086003, .slice 78 5 (ml az dx) 0 false)]) ?_ ?_
  ·rcases ai hm with ⟨c1,hm⟩|⟨c1,hm⟩
   ·obtain ⟨e_1, h1, hm⟩ := aa hm
    rcases ai hm with ⟨c2,hm⟩|⟨c2,hm⟩
    ·refine qGs [(2, hto (lnE az dx)), (4, hto (bE c1)), (7, hix (ix az h1)), (9, hlo 600086003 0 (ix az h1)), (12, hix (ix az (bf hx1))), (16, hto (bE c2))] [] [(55, .bool true)] ?_
     exact qX true hm
    rcases ai hm with ⟨c3,hm⟩|⟨c3,hm⟩
    ·refine qGs [(2, hto (lnE az dx)), (4, hto (bE c1)), (7, hix (ix az h1)), (9, hlo 600086003 0 (ix az h1)), (12, hix (ix az (bf hx1))), (16, hto (bE c2)), (19, hix (ix az h1)), (21, hlo 600086003 0 (ix az h1)), (24, hix (ix az (bf hx1))), (28, hto (bE c3)), (31, hix (ix az h1)), (33, hlo 600086003 1 (ix az h1)), (36, hix (ix az (bf hx1)))] [] [(55, .bool (decide (e_1.B < e1.B)))] ?_
     exact qX (decide (e_1.B < e1.B)) hm
    refine qGs [(2, hto (lnE az dx)), (4, hto (bE c1)), (7, hix (ix az h1)), (9, hlo 600086003 0 (ix az h1)), (12, hix (ix az (bf hx1))), (16, hto (bE c2)), (19, hix (ix az h1)), (21, hlo 600086003 0 (ix az h1)), (24, hix (ix az (bf hx1))), (28, hto (bE c3))] [] [(55, .bool false)] ?_
    exact qX false hm
   refine qGs [(2, hto (lnE az dx)), (4, hto (bE c1))] [] [(55, .bool false)] ?_
   exact qX false hm
  rintro v_1 hm
  rw [hJ1] at hm
  rcases ai hm with ⟨c4,hm⟩|⟨c4,hm⟩
  ·refine qT c4 ?_
   refine A.skip ?_
   show ah _ _ _ _ _
   refine A.block ?_
   refine qGs [] [5, 55] [(5, i6 (w64 (nS + (1:Int))))] ?_
   exact qX (w64 (nS + (1:Int))) hm
  refine qF c4 ?_
  refine A.exit ?_
  show ah _ _ _ _ _
  refine qDs [] [55] [(6, .aG)] ?_
  obtain ⟨l_1, h2, hm⟩ := aa hm
  obtain ⟨l_2, h3, hm⟩ := aa hm
  refine A.RS W0 [.fz [600086003]] [(3, hsl (sl az h2)), (4, hap 86562 (ap az (bytes := 40) (by decide) h3))] [(0, lf az l), (3, .own 600086003), (4, i6 (j1 : Int)), (5, i6 nS), (6, .own 86562)] [(600086003, .slice 78 5 (ml az dx) (ml az dx).length true), (86562, .slice 78 5 (ml az l_2) 0 false)] (by kernel_rfl) ?_
  obtain ⟨l_3, h4, hm⟩ := aa hm
  refine qS [(3, hix (ix az (bf hx1))), (6, hap 86569 (ap az (bytes := 40) (by decide) h4))] [(0, lf az l), (3, .own 600086003), (4, i6 (j1 : Int)), (5, i6 nS), (6, .own 86569)] [(600086003, .slice 78 5 (ml az dx) (ml az dx).length true), (86569, .slice 78 5 (ml az l_3) 0 false)] ?_
  obtain ⟨l_4, h5, hm⟩ := aa hm
  obtain ⟨l_5, h6, hm⟩ := aa hm
  refine qG [(3, hsl (aod az h5)), (4, hap 86574 (ap az (bytes := 40) (by decide) h6))] [3, 5, 6] [(3, .own 86574)] [600086003, 86569] [(86574, .slice 78 5 (ml az l_5) 0 false)] ?_
  show ah _ _ _ _ _
  refine qGs [(1, hto (inc hx1 hb1))] [4] [(4, i6 ((j1 + 1 : Nat) : Int))] ?_
  exact Exists.intro l_5 (And.intro hm (bA.go [.sw 86574 600086003] [] (by kernel_rfl)))
 rintro j1 dx hj1 hl1 hm
 rw [hK1] at hm
 refine A.seq ?_
 refine qDs [(2, hto (lnE az l))] [] [(10, .bool (decide ((j1 : Int) < (l.length:Int))))] ?_
 refine qF (ltF hl1) ?_
 refine A.exit ?_
 show ah _ _ _ _ _
 refine qDs [] [0, 3, 4, 10] [(2, .own 600086003)] ?_
 refine A.ret ?_
 obtain rfl := some_inj hm
 exact A.fin W0 [.sw 600086003 500008600] rfl (by kernel_rfl)
theorem acW {l : List Int} {r : aR} (hm : tP l = some r) : bM Tryz.prog 9 [] [lf bL l] (fun a σ' => a = .ptr 900000074 0 ∧ σ' = [(900000074, .cells 74 (k3 r))]) := by
 refine aT Tryz.func9 rfl rfl ?_
 unfold tP at hm
 refine qS [] [(0, lf bL l)] [] ?_
 obtain ⟨J1, hJ1, hm⟩ := bJ hm
 refine A.J (J := J1) (r := r) (fun l_1 => [(0, lf bL l_1)]) (fun l_1 => []) ?_ ?_
 ·refine qDs [(1, hto (lnE bL l))] [] [(5, .bool (decide ((600:Int) < (l.length:Int))))] ?_
  rcases ai hm with ⟨c1,hm⟩|⟨c1,hm⟩
  ·refine qT c1 ?_
   obtain ⟨l_2, h1, hm⟩ := aa hm
   refine qR [(1, hsl (sl bL h1))] [(0, lf bL l_2)] [] ?_
   exact Exists.intro l_2 (And.intro hm (bA.go [] [0] (by kernel_rfl)))
  refine qF c1 ?_
  refine A.skip ?_
  exact Exists.intro l (And.intro hm (bA.go [] [0] (by kernel_rfl)))
 rintro l_1 hm
 rw [hJ1] at hm
 refine qS [(2, .al 9010)] [(2, .ptr 9010 0)] [(9010, .cells 74 [lf bL l_1, i6 0])] ?_
 refine A.ret ?_
 obtain rfl := some_inj hm
 exact A.fin W0 [.sw 9010 900000074] rfl (by kernel_rfl)
theorem u9 {t : aR} {most : Int} {n : Int} {r : aD × aR} (hm : jj t most n = some r) : bM Tryz.prog 38 [(900000074, .cells 74 (k3 t))] [.ptr 900000074 0, i6 most, i6 n] (fun a σ' => a = .agg [.own 500003800, .own 500003801] ∧ σ' = [(900000074, .cells 74 (k3 r.2)), (500003800, .slice 87 2 (ml aU r.1.aI) 0 false), (500003801, .slice 78 5 (ml az r.1.Links) 0 false)]) := by
 refine aT Tryz.func38 rfl rfl ?_
 unfold jj at hm
 refine qS [(0, .al 38006)] [(0, .ptr 900000074 0), (1, i6 most), (2, i6 n), (6, .ptr 38006 0)] [(900000074, .cells 74 (k3 t)), (38006, .cells 44 [.aG, .aG])] ?_
 refine qD [(0, .al 38007)] [] [(7, .ptr 38007 0)] [] [(38007, .cells 44 [.aG, .aG])] ?_
 obtain ⟨af, h1, hm⟩ := aa hm
 refine qD [(2, hdc [] (eN h1) w6)] [1] [(8, i6 af.1)] [900000074] [(900000074, .cells 74 (k3 af.2))] ?_
 refine A.seq ?_
 refine qDs [] [] [(9, i6 1)] ?_
 refine A.block ?_
 obtain ⟨hh1, hm⟩ := eV hm
 obtain ⟨B1, K1, hB1, hK1, hm⟩ := jg hm
 refine A.lpN (hi := (af.1 + 1)) (B := B1) (K := K1) hm rfl (fun j1 => fun m_1 => [(0, .ptr 900000074 0), (2, i6 n), (6, .ptr 38006 0), (7, .ptr 38007 0), (8, i6 af.1), (9, i6 (j1 : Int))]) (fun j1 => fun m_1 => [(900000074, .cells 74 (k3 af.2)), (38006, .cells 44 [.aG, .aG]), (38007, .cells 44 [.own 703800700, .aG]), (703800700, .slice 87 2 (ml aU m_1) 0 false)]) ?_ ?_ ?_
 ·exact bA.go [.ac 38007 703800700 87 2 0] [] (by kernel_rfl)
 ·rintro j1 Z1 m_1 hj1 hx1 hm
  rw [hB1] at hm
  refine A.seq ?_
  refine qDs [] [] [(21, .bool (decide ((j1 : Int) ≤ af.1)))] ?_
  refine A.cT rfl (leT hx1) ?_
  refine A.skip ?_
  show ah _ _ _ _ _
  refine A.seq ?_
  refine A.block ?_
  obtain ⟨l_1, h2, hm⟩ := aa hm
  refine qG [(5, hap 38529 (ap aU (bytes := 16) (by decide) h2))] [21] [] [38007, 703800700] [(38007, .cells 44 [.own 38529, .aG]), (38529, .slice 87 2 (ml aU l_1) 0 false)] ?_
  show ah _ _ _ _ _
  refine qGs [(1, hto (tL (by omega) hx1 (of_decide_eq_true hh1)))] [9] [(9, i6 (j1 + 1 : Int))] ?_
  exact Exists.intro l_1 (And.intro hm (bA.go [.sw 38529 703800700] [] (by kernel_rfl)))
 rintro j1 m_1 hj1 hl1 hm
 rw [hK1] at hm
 refine A.seq ?_
 refine qDs [] [] [(21, .bool (decide ((j1 : Int) ≤ af.1)))] ?_
 refine A.cF rfl (gtF hl1) ?_
 refine A.exit ?_
 show ah _ _ _ _ _
 obtain ⟨ay, h3, hm⟩ := aa hm
 refine qD [(2, hdc [] (di h3) qw)] [9, 21] [(10, i6 ay.1)] [900000074] [(900000074, .cells 74 (k3 ay.2))] ?_
 refine A.seq ?_
 refine qDs [] [] [(11, i6 2)] ?_
 refine A.block ?_
 obtain ⟨hh2, hm⟩ := eV hm
 obtain ⟨B2, K2, hB2, hK2, hm⟩ := jg hm
 refine A.lpN (hi := (af.1 + 1)) (B := B2) (K := K2) hm rfl (fun j2 => fun sg => match sg with | (m_2, m_3, m_4) => [(0, .ptr 900000074 0), (2, i6 n), (6, .ptr 38006 0), (7, .ptr 38007 0), (8, i6 af.1), (10, i6 ay.1), (11, i6 (j2 : Int))]) (fun j2 => fun sg => match sg with | (m_2, m_3, m_4) => [(900000074, .cells 74 [lf bL m_3, i6 m_4]), (38006, .cells 44 [.aG, .aG]), (38007, .cells 44 [.own 703800700, .own 703800701]), (703800700, .slice 87 2 (ml aU m_1) 0 false), (703800701, .slice 78 5 (ml az m_2) 0 false)]) ?_ ?_ ?_
 ·exact bA.go [.ac 38007 703800701 78 5 1] [] (by kernel_rfl)
 ·rintro j2 Z2 ⟨m_2, m_3, m_4⟩ hj2 hx2 hm
  rw [hB2] at hm
  refine A.seq ?_
  refine qDs [] [] [(36, .bool (decide ((j2 : Int) ≤ af.1)))] ?_
  refine A.cT rfl (leT hx2) ?_
  refine A.skip ?_
  show ah _ _ _ _ _
  refine A.seq ?_
  refine A.block ?_
  obtain ⟨aK, h4, hm⟩ := aa hm
  refine qD [(3, hdc [] (eN h4) w6)] [36] [(12, i6 aK.1)] [900000074] [(900000074, .cells 74 (k3 aK.2))] ?_
  obtain ⟨bh, h5, hm⟩ := aa hm
  refine qD [(1, hdc [] (gI h5) y4)] [] [(13, .bool bh.1)] [900000074] [(900000074, .cells 74 (k3 bh.2))] ?_
  refine qDs [] [] [(14, i6 1)] ?_
  refine A.block ?_
  obtain ⟨hh3, hm⟩ := eV hm
  obtain ⟨B3, K3, hB3, hK3, hm⟩ := jg hm
  refine A.lpN (hi := (j2 : Int)) (B := B3) (K := K3) hm rfl (fun j3 => fun sg => match sg with | (m_5, m_6, m_7) => [(0, .ptr 900000074 0), (2, i6 n), (6, .ptr 38006 0), (7, .ptr 38007 0), (8, i6 af.1), (10, i6 ay.1), (11, i6 (j2 : Int)), (12, i6 aK.1), (13, .bool bh.1), (14, i6 (j3 : Int))]) (fun j3 => fun sg => match sg with | (m_5, m_6, m_7) => [(900000074, .cells 74 [lf bL m_6, i6 m_7]), (38006, .cells 44 [.aG, .aG]), (38007, .cells 44 [.own 703800700, .own 703800701]), (703800700, .slice 87 2 (ml aU m_1) 0 false), (703800701, .slice 78 5 (ml az m_5) 0 false)]) ?_ ?_ ?_
  ·exact qW
  ·rintro j3 Z3 ⟨m_5, m_6, m_7⟩ hj3 hx3 hm
   rw [hB3] at hm
   refine A.seq ?_
   refine qDs [] [] [(47, .bool (decide ((j3 : Int) < (j2 : Int))))] ?_
   refine A.cT rfl (decide_eq_true hx3) ?_
   refine A.skip ?_
   show ah _ _ _ _ _
   obtain ⟨J1, hJ1, hm⟩ := bJ hm
   refine A.J (J := J1) (r := r) (fun sg => match sg with | (m_8, m_9, gu) => [(0, .ptr 900000074 0), (2, i6 n), (6, .ptr 38006 0), (7, .ptr 38007 0), (8, i6 af.1), (10, i6 ay.1), (11, i6 (j2 : Int)), (12, i6 aK.1), (13, .bool bh.1), (14, i6 (j3 : Int))]) (fun sg => match sg with | (m_8, m_9, gu) => [(900000074, .cells 74 [lf bL m_8, i6 m_9]), (38006, .cells 44 [.aG, .aG]), (38007, .cells 44 [.own 703800700, .own 703800701]), (703800700, .slice 87 2 (ml aU m_1) 0 false), (703800701, .slice 78 5 (ml az gu) 0 false)]) ?_ ?_
   ·refine A.block ?_
    obtain ⟨J2, hJ2, hm⟩ := bJ hm
    refine A.J (J := J2) (r := r) (fun sg => match sg with | (v_1, gf, kK) => [(0, .ptr 900000074 0), (2, i6 n), (6, .ptr 38006 0), (7, .ptr 38007 0), (8, i6 af.1), (10, i6 ay.1), (11, i6 (j2 : Int)), (12, i6 aK.1), (13, .bool bh.1), (14, i6 (j3 : Int)), (60, .bool v_1)]) (fun sg => match sg with | (v_1, gf, kK) => [(900000074, .cells 74 [lf bL gf, i6 kK]), (38006, .cells 44 [.aG, .aG]), (38007, .cells 44 [.own 703800700, .own 703800701]), (703800700, .slice 87 2 (ml aU m_1) 0 false), (703800701, .slice 78 5 (ml az m_5) 0 false)]) ?_ ?_
    ·rcases ai hm with ⟨c1,hm⟩|⟨c1,hm⟩
     ·rcases ai hm with ⟨c2,hm⟩|⟨c2,hm⟩
      ·refine qGs [(3, hto (bE c1)), (7, hto (bE c2))] [47] [(60, .bool true)] ?_
       exact qX (true, m_6, m_7) hm
      obtain ⟨bI, h6, hm⟩ := aa hm
      refine qG [(3, hto (bE c1)), (7, hto (bE c2)), (9, hdc [] (gI h6) y4)] [47] [(60, .bool bI.1)] [900000074] [(900000074, .cells 74 (k3 bI.2))] ?_
      exact qX (bI.1, bI.2.L, bI.2.At) hm
     obtain ⟨bV, h7, hm⟩ := aa hm
     refine qG [(3, hto (bE c1)), (9, hdc [] (gI h7) y4)] [47] [(60, .bool bV.1)] [900000074] [(900000074, .cells 74 (k3 bV.2))] ?_
     exact qX (bV.1, bV.2.L, bV.2.At) hm
    rintro ⟨v_1, gf, kK⟩ hm
    rw [hJ2] at hm
    rcases ai hm with ⟨c3,hm⟩|⟨c3,hm⟩
    ·refine qT c3 ?_
     obtain ⟨cD, h8, hm⟩ := aa hm
     obtain ⟨dg, h9, hm⟩ := aa hm
     obtain ⟨dB, h10, hm⟩ := aa hm
     obtain ⟨l_2, h11, hm⟩ := aa hm
     refine qG [(6, hdc [] (eN h8) w6), (9, hdc [] (eN h9) w6), (11, hdc [] (bO h10) iN), (14, hap 38575 (ap az (bytes := 40) (by decide) h11))] [60] [] [900000074, 38007, 703800701] [(900000074, .cells 74 (k3 dB.2)), (38007, .cells 44 [.own 703800700, .own 38575]), (38575, .slice 78 5 (ml az l_2) 0 false)] ?_
     exact Exists.intro (dB.2.L, dB.2.At, l_2) (And.intro hm (bA.go [.sw 38575 703800701] [] (by kernel_rfl)))
    refine qF c3 ?_
    refine A.skip ?_
    exact qX (gf, kK, m_5) hm
   rintro ⟨m_8, m_9, gu⟩ hm
   rw [hJ1] at hm
   refine qGs [(1, hto (tL (by omega) hx3 (of_decide_eq_true hh3)))] [14] [(14, i6 (j3 + 1 : Int))] ?_
   exact qX (gu, m_8, m_9) hm
  rintro j3 ⟨m_5, m_6, m_7⟩ hj3 hl3 hm
  rw [hK3] at hm
  refine A.seq ?_
  refine qDs [] [] [(47, .bool (decide ((j3 : Int) < (j2 : Int))))] ?_
  refine A.cF rfl (geF hl3) ?_
  refine A.exit ?_
  show ah _ _ _ _ _
  refine qGs [(1, hto (tL (by omega) hx2 (of_decide_eq_true hh2)))] [11, 12, 13, 14, 47] [(11, i6 (j2 + 1 : Int))] ?_
  exact qX (m_5, m_6, m_7) hm
 rintro j2 ⟨m_2, m_3, m_4⟩ hj2 hl2 hm
 rw [hK2] at hm
 refine A.seq ?_
 refine qDs [] [] [(36, .bool (decide ((j2 : Int) ≤ af.1)))] ?_
 refine A.cF rfl (gtF hl2) ?_
 refine A.exit ?_
 show ah _ _ _ _ _
 obtain ⟨bQ, h12, hm⟩ := aa hm
 refine qD [(2, hdl [703800701] [500008600] (abr h12) ck86 ⟨kP az (fun _ => rfl) _, trivial⟩)] [8, 10, 11, 36] [] [38007, 703800701] [(38007, .cells 44 [.own 703800700, .own 500008600]), (500008600, .slice 78 5 (ml az bQ) 0 false)] ?_
 obtain ⟨J3, hJ3, hm⟩ := bJ hm
 refine A.J (J := J3) (r := r) (fun sg => match sg with | (sI, sJ, tQ, tT) => [(6, .ptr 38006 0), (7, .ptr 38007 0)]) (fun sg => match sg with | (sI, sJ, tQ, tT) => [(900000074, .cells 74 [lf bL sI, i6 sJ]), (38006, .cells 44 [.aG, .aG]), (38007, .cells 44 [.own 703800700, .own 703800701]), (703800700, .slice 87 2 (ml aU tQ) 0 false), (703800701, .slice 78 5 (ml az tT) 0 false)]) ?_ ?_
 ·obtain ⟨J4, hJ4, hm⟩ := bJ hm
  refine A.J (J := J4) (r := r) (fun sg => match sg with | (v_2, qy, qz) => [(0, .ptr 900000074 0), (6, .ptr 38006 0), (7, .ptr 38007 0), (87, .bool v_2)]) (fun sg => match sg with | (v_2, qy, qz) => [(900000074, .cells 74 [lf bL qy, i6 qz]), (38006, .cells 44 [.aG, .aG]), (38007, .cells 44 [.own 703800700, .own 500008600]), (703800700, .slice 87 2 (ml aU m_1) 0 false), (500008600, .slice 78 5 (ml az bQ) 0 false)]) ?_ ?_
  ·rcases ai hm with ⟨c4,hm⟩|⟨c4,hm⟩
   ·obtain ⟨en, h13, hm⟩ := aa hm
    refine qG [(2, hto (bE c4)), (5, hdc [] (gI h13) y4)] [2] [(87, .bool en.1)] [900000074] [(900000074, .cells 74 (k3 en.2))] ?_
    exact qX (en.1, en.2.L, en.2.At) hm
   refine qGs [(2, hto (bE c4))] [2] [(87, .bool false)] ?_
   exact qX (false, m_3, m_4) hm
  rintro ⟨v_2, qy, qz⟩ hm
  rw [hJ4] at hm
  rcases ai hm with ⟨c5,hm⟩|⟨c5,hm⟩
  ·refine qT c5 ?_
   obtain ⟨cm, h14, hm⟩ := aa hm
   refine qD [(1, hdc [] (bO h14) iN)] [87] [(89, i6 cm.1)] [900000074] [(900000074, .cells 74 (k3 cm.2))] ?_
   refine A.block ?_
   refine qDs [] [] [(101, .bool (decide (cm.1 = (0:Int))))] ?_
   rcases ai hm with ⟨c6,hm⟩|⟨c6,hm⟩
   ·refine qT c6 ?_
    obtain ⟨gy, h15, hm⟩ := aa hm
    obtain ⟨l_3, h16, hm⟩ := aa hm
    refine qG [(4, hdc [] (di h15) qw), (7, hap 38610 (ap aU (bytes := 16) (by decide) h16))] [0, 89, 101] [] [900000074, 38007, 703800700] [(900000074, .cells 74 (k3 gy.2)), (38007, .cells 44 [.own 38610, .own 500008600]), (38610, .slice 87 2 (ml aU l_3) 0 false)] ?_
    exact Exists.intro (gy.2.L, gy.2.At, l_3, bQ) (And.intro hm (bA.go [.sw 38610 703800700, .sw 500008600 703800701] [] (by kernel_rfl)))
   refine qF c6 ?_
   refine qDs [] [101] [(112, .bool (decide (cm.1 = (1:Int))))] ?_
   rcases ai hm with ⟨c7,hm⟩|⟨c7,hm⟩
   ·refine qT c7 ?_
    obtain ⟨lg, h17, hm⟩ := aa hm
    obtain ⟨ko, h18, hm⟩ := aa hm
    obtain ⟨l_4, h19, hm⟩ := aa hm
    refine qG [(3, hdc [] (bO h17) iN), (5, hdc [] (bO h18) iN), (8, hap 38622 (ap az (bytes := 40) (by decide) h19))] [0, 89, 112] [] [900000074, 38007, 500008600] [(900000074, .cells 74 (k3 ko.2)), (38007, .cells 44 [.own 703800700, .own 38622]), (38622, .slice 78 5 (ml az l_4) 0 false)] ?_
    exact Exists.intro (ko.2.L, ko.2.At, m_1, l_4) (And.intro hm (bA.go [.sw 38622 703800701] [] (by kernel_rfl)))
   refine qF c7 ?_
   refine qDs [] [112] [(124, .bool (decide (cm.1 = (2:Int))))] ?_
   rcases ai hm with ⟨c8,hm⟩|⟨c8,hm⟩
   ·refine qT c8 ?_
    refine qDs [(2, hto (lnE az bQ))] [89, 124] [(129, .bool (decide ((0:Int) < (bQ.length:Int))))] ?_
    rcases ai hm with ⟨c9,hm⟩|⟨c9,hm⟩
    ·refine qT c9 ?_
     obtain ⟨nT, h20, hm⟩ := aa hm
     obtain ⟨pe, h21, hm⟩ := aa hm
     obtain ⟨e_1, h22, hm⟩ := aa hm
     obtain ⟨l_5, h23, hm⟩ := aa hm
     refine qG [(5, hto (lnE az bQ)), (6, hdc [] (bO h20) iN), (8, hdc [] (gv h21) y5), (9, hix (ix az h22)), (11, hso 500008600 (st az (off := 2) (ca := [i6 pe.1]) h22 h23 rfl) (iM h22).1.1)] [0, 129] [] [900000074, 500008600] [(900000074, .cells 74 (k3 pe.2)), (500008600, .slice 78 5 (ml az l_5) 0 false)] ?_
     exact Exists.intro (pe.2.L, pe.2.At, m_1, l_5) (And.intro hm (bA.go [.sw 500008600 703800701] [] (by kernel_rfl)))
    refine qF c9 ?_
    refine A.skip ?_
    exact Exists.intro (cm.2.L, cm.2.At, m_1, bQ) (And.intro hm (bA.go [.sw 500008600 703800701] [] (by kernel_rfl)))
   refine qF c8 ?_
   refine qDs [] [124] [(141, .bool (decide (cm.1 = (3:Int))))] ?_
   rcases ai hm with ⟨c10,hm⟩|⟨c10,hm⟩
   ·refine qT c10 ?_
    refine qDs [(2, hto (lnE az bQ))] [89, 141] [(146, .bool (decide ((0:Int) < (bQ.length:Int))))] ?_
    rcases ai hm with ⟨c11,hm⟩|⟨c11,hm⟩
    ·refine qT c11 ?_
     obtain ⟨pg, h24, hm⟩ := aa hm
     obtain ⟨lp, h25, hm⟩ := aa hm
     obtain ⟨e_2, h26, hm⟩ := aa hm
     obtain ⟨l_6, h27, hm⟩ := aa hm
     refine qG [(5, hto (lnE az bQ)), (6, hdc [] (bO h24) iN), (8, hdc [] (gv h25) y5), (9, hix (ix az h26)), (11, hso 500008600 (st az (off := 3) (ca := [i6 lp.1]) h26 h27 rfl) (iM h26).1.1)] [0, 146] [] [900000074, 500008600] [(900000074, .cells 74 (k3 lp.2)), (500008600, .slice 78 5 (ml az l_6) 0 false)] ?_
     exact Exists.intro (lp.2.L, lp.2.At, m_1, l_6) (And.intro hm (bA.go [.sw 500008600 703800701] [] (by kernel_rfl)))
    refine qF c11 ?_
    refine A.skip ?_
    exact Exists.intro (cm.2.L, cm.2.At, m_1, bQ) (And.intro hm (bA.go [.sw 500008600 703800701] [] (by kernel_rfl)))
   refine qF c10 ?_
   refine qDs [] [141] [(158, .bool (decide (cm.1 = (4:Int))))] ?_
   rcases ai hm with ⟨c12,hm⟩|⟨c12,hm⟩
   ·refine qT c12 ?_
    refine qDs [(2, hto (lnE az bQ))] [89, 158] [(163, .bool (decide ((0:Int) < (bQ.length:Int))))] ?_
    rcases ai hm with ⟨c13,hm⟩|⟨c13,hm⟩
    ·refine qT c13 ?_
     obtain ⟨abC, h28, hm⟩ := aa hm
     obtain ⟨uC, h29, hm⟩ := aa hm
     obtain ⟨e_3, h30, hm⟩ := aa hm
     obtain ⟨l_7, h31, hm⟩ := aa hm
     refine qG [(5, hto (lnE az bQ)), (6, hdc [] (bO h28) iN), (8, hdc [] (gv h29) y5), (9, hix (ix az h30)), (11, hso 500008600 (st az (off := 4) (ca := [i6 uC.1]) h30 h31 rfl) (iM h30).1.1)] [0, 163] [] [900000074, 500008600] [(900000074, .cells 74 (k3 uC.2)), (500008600, .slice 78 5 (ml az l_7) 0 false)] ?_
     exact Exists.intro (uC.2.L, uC.2.At, m_1, l_7) (And.intro hm (bA.go [.sw 500008600 703800701] [] (by kernel_rfl)))
    refine qF c13 ?_
    refine A.skip ?_
    exact Exists.intro (cm.2.L, cm.2.At, m_1, bQ) (And.intro hm (bA.go [.sw 500008600 703800701] [] (by kernel_rfl)))
   refine qF c12 ?_
   refine qDs [] [89, 158] [(175, .bool (decide (cm.1 = (5:Int))))] ?_
   rcases ai hm with ⟨c14,hm⟩|⟨c14,hm⟩
   ·refine qT c14 ?_
    refine qDs [(2, hto (lnE az bQ))] [175] [(180, .bool (decide ((0:Int) < (bQ.length:Int))))] ?_
    rcases ai hm with ⟨c15,hm⟩|⟨c15,hm⟩
    ·refine qT c15 ?_
     obtain ⟨vS, h32, hm⟩ := aa hm
     obtain ⟨e_4, h33, hm⟩ := aa hm
     obtain ⟨l_8, h34, hm⟩ := aa hm
     refine qG [(7, hto (lnE az bQ)), (8, hdc [] (bO h32) iN), (9, hix (ix az h33)), (10, hlo 500008600 0 (ix az h33)), (12, hap 38693 (ap az (bytes := 40) (by decide) h34))] [0, 180] [] [900000074, 38007, 500008600] [(900000074, .cells 74 (k3 vS.2)), (38007, .cells 44 [.own 703800700, .own 38693]), (38693, .slice 78 5 (ml az l_8) 0 false)] ?_
     exact Exists.intro (vS.2.L, vS.2.At, m_1, l_8) (And.intro hm (bA.go [.sw 38693 703800701] [] (by kernel_rfl)))
    refine qF c15 ?_
    refine A.skip ?_
    exact Exists.intro (cm.2.L, cm.2.At, m_1, bQ) (And.intro hm (bA.go [.sw 500008600 703800701] [] (by kernel_rfl)))
   refine qF c14 ?_
   refine qDs [] [0, 175] [(15, i6 50)] ?_
   refine A.block ?_
   obtain ⟨B4, K4, hB4, hK4, hm⟩ := jg hm
   refine A.lpN (hi := (75:Int)) (B := B4) (K := K4) hm rfl (fun j4 => fun pM => [(6, .ptr 38006 0), (7, .ptr 38007 0), (15, i6 (j4 : Int))]) (fun j4 => fun pM => [(900000074, .cells 74 (k3 cm.2)), (38006, .cells 44 [.aG, .aG]), (38007, .cells 44 [.own 703800700, .own 500008600]), (703800700, .slice 87 2 (ml aU pM) 0 false), (500008600, .slice 78 5 (ml az bQ) 0 false)]) ?_ ?_ ?_
   ·exact qW
   ·rintro j4 Z4 pM hj4 hx4 hm
    rw [hB4] at hm
    refine A.seq ?_
    refine qDs [] [] [(91, .bool (decide ((j4 : Int) < (75:Int))))] ?_
    refine A.cT rfl (decide_eq_true hx4) ?_
    refine A.skip ?_
    show ah _ _ _ _ _
    refine A.seq ?_
    refine A.block ?_
    obtain ⟨l_9, h35, hm⟩ := aa hm
    refine qG [(5, hap 38599 (ap aU (bytes := 16) (by decide) h35))] [91] [] [38007, 703800700] [(38007, .cells 44 [.own 38599, .own 500008600]), (38599, .slice 87 2 (ml aU l_9) 0 false)] ?_
    show ah _ _ _ _ _
    refine qGs [(1, hto (tL (by omega) hx4 (by decide)))] [15] [(15, i6 (j4 + 1 : Int))] ?_
    exact Exists.intro l_9 (And.intro hm (bA.go [.sw 38599 703800700] [] (by kernel_rfl)))
   rintro j4 pM hj4 hl4 hm
   rw [hK4] at hm
   refine A.seq ?_
   refine qDs [] [] [(91, .bool (decide ((j4 : Int) < (75:Int))))] ?_
   refine A.cF rfl (geF hl4) ?_
   refine A.exit ?_
   exact Exists.intro (cm.2.L, cm.2.At, pM, bQ) (And.intro hm (bA.go [.sw 500008600 703800701] [] (by kernel_rfl)))
  refine qF c5 ?_
  refine A.skip ?_
  exact Exists.intro (qy, qz, m_1, bQ) (And.intro hm (bA.go [.sw 500008600 703800701] [] (by kernel_rfl)))
 rintro ⟨sI, sJ, tQ, tT⟩ hm
 rw [hJ3] at hm
 refine qD [] [7] [] [38006, 38007] [(38006, .cells 44 [.own 703800700, .own 703800701])] ?_
 refine A.ret ?_
 obtain rfl := some_inj hm
 exact A.fin W0 [.sw 703800700 500003800, .sw 703800701 500003801] rfl (by kernel_rfl)
end Go.Proofs.YtpmifmdidfgpdaaGreat
