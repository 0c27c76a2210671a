/- The eC of cr of the program. No condition but bT bB stand in each. -/
import Derived.Test.YtpmifmdidfgpdaaGreatDA
import Derived.Test.YtpmifmdidfgpdaaGreatVX
import Derived.Test.YtpmifmdidfgpdaaGreatVO
namespace Go.Proofs.YtpmifmdidfgpdaaGreat
open Go
set_option maxRecDepth 100000
set_option linter.all false
theorem dS {f : aB} {r : aD} (hm : ez f = some r) : RO Tryz.prog 23 [] [.agg (k11 f)] (.agg (k2 r)) := by
 refine aT Tryz.func23 rfl rfl ?_
 unfold ez at hm
 refine qS [(0, .al 23001), (1, .al 23002)] [(1, .ptr 23001 0), (2, .ptr 23002 0)] [(23001, .cells 27 (k11 f)), (23002, .cells 44 [.aG, .aG])] ?_
 refine qD [(3, .al 23003)] [] [(3, .ptr 23003 0)] [] [(23003, .cells 44 [.aG, lf az f.Links])] ?_
 refine A.seq ?_
 refine qDs [] [] [(4, i6 0)] ?_
 refine A.block ?_
 refine A.bC 1 1 rfl rfl rfl fun hb1 => ?_
 obtain ⟨B1, K1, hB1, hK1, hm⟩ := bt hm
 refine A.lpI (l := f.aC) (j0 := 0) (B := B1) (K := K1) hm (fun j1 => fun m_1 => [(1, .ptr 23001 0), (2, .ptr 23002 0), (3, .ptr 23003 0), (4, i6 (j1 : Int))]) (fun j1 => fun m_1 => [(23001, .cells 27 (k11 f)), (23002, .cells 44 [.aG, .aG]), (23003, .cells 44 [.own 702300300, lf az f.Links]), (702300300, .slice 87 2 (ml aU m_1) 0 false)]) ?_ ?_ ?_
 ·exact bA.go [.ac 23003 702300300 87 2 0] [] (by kernel_rfl)
 ·rintro j1 e1 Z1 m_1 hj1 hx1 hm
  rw [hB1] at hm
  refine A.seq ?_
  refine qDs [(3, hto (lnE aO f.aC))] [] [(12, .bool (decide ((j1 : Int) < (f.aC.length:Int))))] ?_
  refine qT (ltT hx1) ?_
  refine A.skip ?_
  show ah _ _ _ _ _
  refine A.seq ?_
  refine A.block ?_
  obtain ⟨l_1, h1, hm⟩ := aa hm
  refine qG [(5, hix (ix aO (bf hx1))), (11, hix (ix aO (bf hx1))), (16, hap 23531 (ap aU (bytes := 16) (by decide) h1))] [12] [] [23003, 702300300] [(23003, .cells 44 [.own 23531, lf az f.Links]), (23531, .slice 87 2 (ml aU l_1) 0 false)] ?_
  show ah _ _ _ _ _
  refine qGs [(1, hto (inc hx1 hb1))] [4] [(4, i6 ((j1 + 1 : Nat) : Int))] ?_
  exact Exists.intro l_1 (And.intro hm (bA.go [.sw 23531 702300300] [] (by kernel_rfl)))
 rintro j1 m_1 hj1 hl1 hm
 rw [hK1] at hm
 refine A.seq ?_
 refine qDs [(3, hto (lnE aO f.aC))] [] [(12, .bool (decide ((j1 : Int) < (f.aC.length:Int))))] ?_
 refine qF (ltF hl1) ?_
 refine A.exit ?_
 show ah _ _ _ _ _
 refine qD [] [1, 3, 4, 12] [] [23001, 23002, 23003] [(23002, .cells 44 [.own 702300300, lf az f.Links])] ?_
 refine A.ret ?_
 obtain rfl := some_inj hm
 exact A.fin W0 [.fz [702300300]] rfl (by kernel_rfl)
theorem eZ {f : aB} {aJ : Int} {r : Int} (hm : iA f aJ = some r) : RO Tryz.prog 72 [] [.agg (k11 f), i6 aJ] (i6 r) := by
 refine aT Tryz.func72 rfl rfl ?_
 unfold iA at hm
 refine qS [(0, .al 72002)] [(1, i6 aJ), (2, .ptr 72002 0)] [(72002, .cells 27 (k11 f))] ?_
 refine A.seq ?_
 refine qDs [] [] [(5, i6 0)] ?_
 refine A.block ?_
 refine A.bC 2 1 rfl rfl rfl fun hb1 => ?_
 obtain ⟨B1, K1, hB1, hK1, hm⟩ := bt hm
 refine A.lpI (l := f.aC) (j0 := 0) (B := B1) (K := K1) hm (fun j1 => fun sg => match sg with | () => [(1, i6 aJ), (2, .ptr 72002 0), (5, i6 (j1 : Int))]) (fun j1 => fun sg => match sg with | () => [(72002, .cells 27 (k11 f))]) ?_ ?_ ?_
 ·exact qW
 ·rintro j1 e1 Z1 ⟨⟩ hj1 hx1 hm
  rw [hB1] at hm
  refine A.seq ?_
  refine qDs [(3, hto (lnE aO f.aC))] [] [(10, .bool (decide ((j1 : Int) < (f.aC.length:Int))))] ?_
  refine qT (ltT hx1) ?_
  refine A.skip ?_
  show ah _ _ _ _ _
  refine A.seq ?_
  refine A.block ?_
  refine qDs [(3, hix (ix aO (bf hx1)))] [10] [(20, .bool (decide (e1.ak = aJ)))] ?_
  rcases ai hm with ⟨c1,hm⟩|⟨c1,hm⟩
  ·refine qT c1 ?_
   refine qS [] [(4, i6 (j1 : Int))] [] ?_
   cases hm
   exact A.ret qE
  refine qF c1 ?_
  refine A.skip ?_
  show ah _ _ _ _ _
  refine qGs [(1, hto (inc hx1 hb1))] [5, 20] [(5, i6 ((j1 + 1 : Nat) : Int))] ?_
  exact qX () hm
 rintro j1 ⟨⟩ hj1 hl1 hm
 rw [hK1] at hm
 refine A.seq ?_
 refine qDs [(3, hto (lnE aO f.aC))] [] [(10, .bool (decide ((j1 : Int) < (f.aC.length:Int))))] ?_
 refine qF (ltF hl1) ?_
 refine A.exit ?_
 show ah _ _ _ _ _
 refine qS [] [(4, i6 (-1))] [] ?_
 cases hm
 exact A.ret qE
theorem tZ {f : aB} {r : Bool} (hm : kT f = some r) : RO Tryz.prog 57 [] [.agg (k11 f)] (.bool r) := by
 refine aT Tryz.func57 rfl rfl ?_
 unfold kT at hm
 refine qS [(0, .al 57001)] [(1, .ptr 57001 0)] [(57001, .cells 27 (k11 f))] ?_
 refine A.seq ?_
 obtain ⟨J1, hJ1, hm⟩ := bJ hm
 refine A.J (J := J1) (r := r) (fun v_1 => [(1, .ptr 57001 0), (16, .bool v_1)]) (fun v_1 => [(57001, .cells 27 (k11 f))]) ?_ ?_
 ·obtain ⟨af, h1, hm⟩ := aa hm
  obtain ⟨ay, h2, hm⟩ := aa hm
  rcases ai hm with ⟨c1,hm⟩|⟨c1,hm⟩
  ·refine qGs [(1, hro (dS h1) vN), (2, hro (iO h2) aax), (4, hto (bE c1))] [] [(16, .bool true)] ?_
   exact qX true hm
  refine qGs [(1, hro (dS h1) vN), (2, hro (iO h2) aax), (4, hto (bE c1)), (7, hto (lnE aN f.aA))] [] [(16, .bool (decide ((400:Int) < (f.aA.length:Int))))] ?_
  exact qX (decide ((400:Int) < (f.aA.length:Int))) hm
 rintro v_1 hm
 rw [hJ1] at hm
 rcases ai hm with ⟨c2,hm⟩|⟨c2,hm⟩
 ·refine qT c2 ?_
  refine qS [] [(2, .bool false)] [] ?_
  cases hm
  exact A.ret qE
 refine qF c2 ?_
 refine A.skip ?_
 show ah _ _ _ _ _
 refine A.seq ?_
 refine qDs [] [16] [(3, i6 0)] ?_
 refine A.block ?_
 refine A.bC 1 1 rfl rfl rfl fun hb1 => ?_
 obtain ⟨B1, K1, hB1, hK1, hm⟩ := bt hm
 refine A.lpI (l := f.aC) (j0 := 0) (B := B1) (K := K1) hm (fun j1 => fun sg => match sg with | () => [(1, .ptr 57001 0), (3, i6 (j1 : Int))]) (fun j1 => fun sg => match sg with | () => [(57001, .cells 27 (k11 f))]) ?_ ?_ ?_
 ·exact qW
 ·rintro j1 e1 Z1 ⟨⟩ hj1 hx1 hm
  rw [hB1] at hm
  refine A.seq ?_
  refine qDs [(3, hto (lnE aO f.aC))] [] [(21, .bool (decide ((j1 : Int) < (f.aC.length:Int))))] ?_
  refine qT (ltT hx1) ?_
  refine A.skip ?_
  show ah _ _ _ _ _
  refine A.seq ?_
  refine A.block ?_
  refine qD [(3, hix (ix aO (bf hx1))), (5, .al 57004)] [21] [(4, .ptr 57004 0)] [] [(57004, .cells 81 (k8 e1))] ?_
  obtain ⟨J2, hJ2, hm⟩ := bJ hm
  refine A.J (J := J2) (r := r) (fun v_2 => [(1, .ptr 57001 0), (3, i6 (j1 : Int)), (48, .bool v_2)]) (fun v_2 => [(57001, .cells 27 (k11 f))]) ?_ ?_
  ·rcases ai hm with ⟨c3,hm⟩|⟨c3,hm⟩
   ·refine qG [(3, hto (bE c3))] [4] [(48, .bool true)] [57004] [] ?_
    exact qX true hm
   rcases ai hm with ⟨c4,hm⟩|⟨c4,hm⟩
   ·refine qG [(3, hto (bE c3)), (8, hto (bE c4))] [4] [(48, .bool true)] [57004] [] ?_
    exact qX true hm
   obtain ⟨aK, h3, hm⟩ := aa hm
   rcases ai hm with ⟨c5,hm⟩|⟨c5,hm⟩
   ·refine qG [(3, hto (bE c3)), (8, hto (bE c4)), (11, hro (lS h3) ahP), (14, hto (bE c5))] [4] [(48, .bool true)] [57004] [] ?_
    exact qX true hm
   obtain ⟨bh, h4, hm⟩ := aa hm
   refine qG [(3, hto (bE c3)), (8, hto (bE c4)), (11, hro (lS h3) ahP), (14, hto (bE c5)), (17, hro (gK h4) y7)] [4] [(48, .bool (!decide (bh = (0:Int))))] [57004] [] ?_
   exact qX (!decide (bh = (0:Int))) hm
  rintro v_2 hm
  rw [hJ2] at hm
  rcases ai hm with ⟨c6,hm⟩|⟨c6,hm⟩
  ·refine qT c6 ?_
   refine qS [] [(2, .bool false)] [] ?_
   cases hm
   exact A.ret qE
  refine qF c6 ?_
  refine A.skip ?_
  show ah _ _ _ _ _
  refine qGs [(1, hto (inc hx1 hb1))] [3, 48] [(3, i6 ((j1 + 1 : Nat) : Int))] ?_
  exact qX () hm
 rintro j1 ⟨⟩ hj1 hl1 hm
 rw [hK1] at hm
 refine A.seq ?_
 refine qDs [(3, hto (lnE aO f.aC))] [] [(21, .bool (decide ((j1 : Int) < (f.aC.length:Int))))] ?_
 refine qF (ltF hl1) ?_
 refine A.exit ?_
 show ah _ _ _ _ _
 refine A.seq ?_
 refine qDs [] [3, 21] [(5, i6 0)] ?_
 refine A.block ?_
 refine A.bC 1 2 rfl rfl rfl fun hb2 => ?_
 obtain ⟨B2, K2, hB2, hK2, hm⟩ := bt hm
 refine A.lpI (l := f.aA) (j0 := 0) (B := B2) (K := K2) hm (fun j2 => fun sg => match sg with | () => [(1, .ptr 57001 0), (5, i6 (j2 : Int))]) (fun j2 => fun sg => match sg with | () => [(57001, .cells 27 (k11 f))]) ?_ ?_ ?_
 ·exact qW
 ·rintro j2 e2 Z2 ⟨⟩ hj2 hx2 hm
  rw [hB2] at hm
  refine A.seq ?_
  refine qDs [(3, hto (lnE aN f.aA))] [] [(53, .bool (decide ((j2 : Int) < (f.aA.length:Int))))] ?_
  refine qT (ltT hx2) ?_
  refine A.skip ?_
  show ah _ _ _ _ _
  refine A.seq ?_
  refine A.block ?_
  refine qD [(3, hix (ix aN (bf hx2))), (5, .al 57006)] [53] [(6, .ptr 57006 0)] [] [(57006, .cells 62 (k9 e2))] ?_
  obtain ⟨J3, hJ3, hm⟩ := bJ hm
  refine A.J (J := J3) (r := r) (fun v_3 => [(1, .ptr 57001 0), (5, i6 (j2 : Int)), (85, .bool v_3)]) (fun v_3 => [(57001, .cells 27 (k11 f))]) ?_ ?_
  ·obtain ⟨bI, h5, hm⟩ := aa hm
   rcases ai hm with ⟨c7,hm⟩|⟨c7,hm⟩
   ·refine qG [(3, hro (eZ h5) vO), (5, hto (bE c7))] [6] [(85, .bool true)] [57006] [] ?_
    exact qX true hm
   obtain ⟨bV, h6, hm⟩ := aa hm
   rcases ai hm with ⟨c8,hm⟩|⟨c8,hm⟩
   ·refine qG [(3, hro (eZ h5) vO), (5, hto (bE c7)), (9, hro (eZ h6) vO), (12, hto (bE c8))] [6] [(85, .bool true)] [57006] [] ?_
    exact qX true hm
   rcases ai hm with ⟨c9,hm⟩|⟨c9,hm⟩
   ·refine qG [(3, hro (eZ h5) vO), (5, hto (bE c7)), (9, hro (eZ h6) vO), (12, hto (bE c8)), (19, hto (bE c9))] [6] [(85, .bool true)] [57006] [] ?_
    exact qX true hm
   obtain ⟨cD, h7, hm⟩ := aa hm
   refine qG [(3, hro (eZ h5) vO), (5, hto (bE c7)), (9, hro (eZ h6) vO), (12, hto (bE c8)), (19, hto (bE c9)), (22, hro (gK h7) y7)] [6] [(85, .bool (!decide (cD = (0:Int))))] [57006] [] ?_
   exact qX (!decide (cD = (0:Int))) hm
  rintro v_3 hm
  rw [hJ3] at hm
  rcases ai hm with ⟨c10,hm⟩|⟨c10,hm⟩
  ·refine qT c10 ?_
   refine qS [] [(2, .bool false)] [] ?_
   cases hm
   exact A.ret qE
  refine qF c10 ?_
  refine A.skip ?_
  show ah _ _ _ _ _
  refine qGs [(1, hto (inc hx2 hb2))] [5, 85] [(5, i6 ((j2 + 1 : Nat) : Int))] ?_
  exact qX () hm
 rintro j2 ⟨⟩ hj2 hl2 hm
 rw [hK2] at hm
 refine A.seq ?_
 refine qDs [(3, hto (lnE aN f.aA))] [] [(53, .bool (decide ((j2 : Int) < (f.aA.length:Int))))] ?_
 refine qF (ltF hl2) ?_
 refine A.exit ?_
 show ah _ _ _ _ _
 refine qS [] [(2, .bool true)] [] ?_
 cases hm
 exact A.ret qE
theorem vr {f : aB} {i : Int} {seq : Int} {r : aj × Bool} (hm : nI f i seq = some r) : RO Tryz.prog 73 [] [.agg (k11 f), i6 i, i6 seq] (.tup [.agg (k6 r.1), .bool r.2]) := by
 refine aT Tryz.func73 rfl rfl ?_
 unfold nI at hm
 refine qS [(0, .al 73003), (1, .al 73006)] [(1, i6 i), (2, i6 seq), (3, .ptr 73003 0), (6, .ptr 73006 0)] [(73003, .cells 27 (k11 f)), (73006, .cells 50 [i6 0, i6 0, .bool false, .aG, .aG])] ?_
 obtain ⟨af, h1, hm⟩ := aa hm
 obtain ⟨e_1, h2, hm⟩ := aa hm
 obtain ⟨ay, h3, hm⟩ := aa hm
 refine qD [(1, hro (dS h1) vN), (5, hix (ix aO h2)), (12, hix (ix aO h2)), (15, hro (abt h3) atA), (19, .al 73008)] [1, 2, 3] [(8, .ptr 73008 0), (9, i6 ay.2)] [73003] [(73008, .cells 50 (k6 ay.1))] ?_
 refine qS [] [(6, .ptr 73006 0), (7, .bool (decide (ay.2 = (0:Int))))] [(73006, .cells 50 (k6 ay.1))] ?_
 cases hm
 exact A.ret qE
theorem uF {f : aB} {i : Int} {n : aV} {r : aB} (hm : mC f i n = some r) : RO Tryz.prog 77 [] [.agg (k11 f), i6 i, .agg (k8 n)] (.agg (k11 r)) := by
 refine aT Tryz.func77 rfl rfl ?_
 unfold mC at hm
 refine qS [(0, .al 77003), (1, .al 77005), (2, .al 77006)] [(1, i6 i), (3, .ptr 77003 0), (5, .ptr 77005 0), (6, .ptr 77006 0)] [(77003, .cells 27 (k11 f)), (77005, .cells 81 (k8 n)), (77006, .cells 27 [.aG, .aG, .aG])] ?_
 refine qDs [] [] [(7, .aG)] ?_
 obtain ⟨l_1, h1, hm⟩ := aa hm
 refine qD [(3, hap 77511 (ap aO (bytes := 72) (by decide) h1))] [7] [(7, .own 77511)] [] [(77511, .slice 81 5 (ml aO l_1) 0 false)] ?_
 obtain ⟨e_1, h2, hm⟩ := aa hm
 obtain ⟨l_2, h3, hm⟩ := aa hm
 refine qD [(3, hix (ix aO h2)), (4, hso 77511 (st aO (off := 0) (ca := (k8 n)) h2 h3 rfl) (iM h2).1.1)] [1, 5] [] [77005, 77511] [(77511, .slice 81 5 (ml aO l_2) 0 false)] ?_
 refine qD [] [7] [] [77003] [(77003, .cells 27 [lf az f.Links, .own 77511, lf aN f.aA])] ?_
 refine qD [] [3] [] [77003, 77006] [(77006, .cells 27 [lf az f.Links, .own 77511, lf aN f.aA])] ?_
 refine A.ret ?_
 obtain rfl := some_inj hm
 exact A.fin W0 [.fz [77511]] rfl (by kernel_rfl)
theorem zm {f : aB} {i : Int} {seq : Int} {r : aB} (hm : jJ f i seq = some r) : RO Tryz.prog 76 [] [.agg (k11 f), i6 i, i6 seq] (.agg (k11 r)) := by
 refine aT Tryz.func76 rfl rfl ?_
 unfold jJ at hm
 refine qS [(0, .al 76003), (1, .al 76006)] [(1, i6 i), (2, i6 seq), (3, .ptr 76003 0), (6, .ptr 76006 0)] [(76003, .cells 27 (k11 f)), (76006, .cells 27 [.aG, .aG, .aG])] ?_
 obtain ⟨e_1, h1, hm⟩ := aa hm
 refine qD [(3, hix (ix aO h1)), (5, .al 76007)] [] [(7, .ptr 76007 0)] [] [(76007, .cells 81 (k8 e_1))] ?_
 refine qD [] [] [] [76007] [(76007, .cells 81 [i6 e_1.ak, i6 seq, .bool e_1.aX, lf aS e_1.Claims, lf aH e_1.Database.aq])] ?_
 obtain ⟨af, h2, hm⟩ := aa hm
 refine qD [(3, hro (vr h2) apt), (7, .al 76008)] [2] [(8, .ptr 76008 0)] [] [(76008, .cells 50 (k6 af.1))] ?_
 obtain ⟨ay, h3, hm⟩ := aa hm
 refine qD [(3, hro (vo h3) ajk)] [8] [] [76007, 76008] [(76007, .cells 81 [i6 e_1.ak, i6 seq, .bool e_1.aX, lf aS e_1.Claims, lf aH ay.1.aq])] ?_
 obtain ⟨aK, h4, hm⟩ := aa hm
 refine qS [(3, hro (uF h4) apw)] [(6, .ptr 76006 0)] [(76006, .cells 27 (k11 aK))] ?_
 cases hm
 exact A.ret qE
theorem zV {f : aB} {aJ : Int} {r : aB × Int} (hm : mD f aJ = some r) : RO Tryz.prog 33 [] [.agg (k11 f), i6 aJ] (.tup [.agg (k11 r.1), i6 r.2]) := by
 refine aT Tryz.func33 rfl rfl ?_
 unfold mD at hm
 refine qS [(0, .al 33002), (1, .al 33004)] [(1, i6 aJ), (2, .ptr 33002 0), (4, .ptr 33004 0)] [(33002, .cells 27 (k11 f)), (33004, .cells 27 [.aG, .aG, .aG])] ?_
 refine A.seq ?_
 obtain ⟨af, h1, hm⟩ := aa hm
 refine qDs [(1, hro (tZ h1) apn)] [] [(12, .bool (!af))] ?_
 rcases ai hm with ⟨c1,hm⟩|⟨c1,hm⟩
 ·refine qT c1 ?_
  refine qD [] [1, 2, 12] [(5, i6 1)] [33002] [] ?_
  cases hm
  exact A.ret qE
 refine qF c1 ?_
 refine A.skip ?_
 show ah _ _ _ _ _
 obtain ⟨ay, h2, hm⟩ := aa hm
 refine qDs [(2, hro (eZ h2) vO)] [12] [(6, i6 ay)] ?_
 refine A.seq ?_
 refine qDs [] [] [(18, .bool (decide (ay < (0:Int))))] ?_
 rcases ai hm with ⟨c2,hm⟩|⟨c2,hm⟩
 ·refine qT c2 ?_
  refine qD [] [1, 2, 6, 18] [(5, i6 4)] [33002] [] ?_
  cases hm
  exact A.ret qE
 refine qF c2 ?_
 refine A.skip ?_
 show ah _ _ _ _ _
 obtain ⟨aK, h3, hm⟩ := aa hm
 obtain ⟨bh, h4, hm⟩ := aa hm
 refine qDs [(1, hro (dS h3) vN), (3, hro (uA h4) apx)] [18] [(7, lf bL bh)] ?_
 refine A.seq ?_
 refine qDs [(2, hto (lnE aN f.aA)), (4, hto (lnE bL bh))] [] [(30, .bool (decide ((400:Int) < w64 ((f.aA.length:Int) + (bh.length:Int)))))] ?_
 rcases ai hm with ⟨c3,hm⟩|⟨c3,hm⟩
 ·refine qT c3 ?_
  refine qD [] [1, 2, 6, 7, 30] [(5, i6 3)] [33002] [] ?_
  cases hm
  exact A.ret qE
 refine qF c3 ?_
 refine A.skip ?_
 show ah _ _ _ _ _
 refine qDs [] [30] [(8, .aG)] ?_
 obtain ⟨l_1, h5, hm⟩ := aa hm
 refine qD [(3, hap 33535 (ap aN (bytes := 40) (by decide) h5))] [8] [(8, .own 33535)] [] [(33535, .slice 62 3 (ml aN l_1) 0 false)] ?_
 refine A.seq ?_
 refine qDs [] [] [(9, i6 0)] ?_
 refine A.block ?_
 refine A.bS 7 rfl fun hb1 => ?_
 obtain ⟨B1, K1, hB1, hK1, hm⟩ := bt hm
 refine A.lpI (l := bh) (j0 := 0) (B := B1) (K := K1) hm (fun j1 => fun l_2 => [(1, i6 aJ), (2, .ptr 33002 0), (4, .ptr 33004 0), (6, i6 ay), (7, lf bL bh), (8, .own 600033008), (9, i6 (j1 : Int))]) (fun j1 => fun l_2 => [(33002, .cells 27 (k11 f)), (33004, .cells 27 [.aG, .aG, .aG]), (600033008, .slice 62 3 (ml aN l_2) 0 false)]) ?_ ?_ ?_
 ·exact bA.go [.sw 33535 600033008] [] (by kernel_rfl)
 ·rintro j1 e1 Z1 l_2 hj1 hx1 hm
  rw [hB1] at hm
  refine A.seq ?_
  refine qDs [(2, hto (lnE bL bh))] [] [(39, .bool (decide ((j1 : Int) < (bh.length:Int))))] ?_
  refine qT (ltT hx1) ?_
  refine A.skip ?_
  show ah _ _ _ _ _
  refine A.seq ?_
  refine A.block ?_
  obtain ⟨e_1, h6, hm⟩ := aa hm
  obtain ⟨l_3, h7, hm⟩ := aa hm
  refine qG [(4, hix (ix bL (bf hx1))), (9, hix (ix aO h6)), (14, hap 33556 (ap aN (bytes := 40) (by decide) h7))] [8, 39] [(8, .own 33556)] [600033008] [(33556, .slice 62 3 (ml aN l_3) 0 false)] ?_
  show ah _ _ _ _ _
  refine qGs [(1, hto (inc hx1 hb1))] [9] [(9, i6 ((j1 + 1 : Nat) : Int))] ?_
  exact Exists.intro l_3 (And.intro hm (bA.go [.sw 33556 600033008] [] (by kernel_rfl)))
 rintro j1 l_2 hj1 hl1 hm
 rw [hK1] at hm
 refine A.seq ?_
 refine qDs [(2, hto (lnE bL bh))] [] [(39, .bool (decide ((j1 : Int) < (bh.length:Int))))] ?_
 refine qF (ltF hl1) ?_
 refine A.exit ?_
 show ah _ _ _ _ _
 refine qD [] [1, 6, 7, 8, 9, 39] [] [33002] [(33002, .cells 27 [lf az f.Links, lf aO f.aC, .own 600033008])] ?_
 refine qD [] [2] [(5, i6 0)] [33002, 33004] [(33004, .cells 27 [lf az f.Links, lf aO f.aC, .own 600033008])] ?_
 refine A.ret ?_
 obtain rfl := some_inj hm
 exact A.fin W0 [.fz [600033008]] rfl (by kernel_rfl)
theorem xg {f : aB} {k : Int} {r : aB} (hm : lF f k = some r) : RO Tryz.prog 93 [] [.agg (k11 f), i6 k] (.agg (k11 r)) := by
 refine aT Tryz.func93 rfl rfl ?_
 unfold lF at hm
 refine qS [(0, .al 93002), (1, .al 93004)] [(1, i6 k), (2, .ptr 93002 0), (4, .ptr 93004 0)] [(93002, .cells 27 (k11 f)), (93004, .cells 27 [.aG, .aG, .aG])] ?_
 refine qDs [] [] [(5, .aG)] ?_
 obtain ⟨l_1, h1, hm⟩ := aa hm
 obtain ⟨l_2, h2, hm⟩ := aa hm
 refine qD [(4, hsl (sl aN h1)), (5, hap 93511 (ap aN (bytes := 40) (by decide) h2))] [5] [(5, .own 93511)] [] [(93511, .slice 62 3 (ml aN l_2) 0 false)] ?_
 obtain ⟨l_3, h3, hm⟩ := aa hm
 obtain ⟨l_4, h4, hm⟩ := aa hm
 refine qD [(5, hsl (aod aN h3)), (6, hap 93518 (ap aN (bytes := 40) (by decide) h4))] [1, 5] [] [93002, 93511] [(93002, .cells 27 [lf az f.Links, lf aO f.aC, .own 93518]), (93518, .slice 62 3 (ml aN l_4) 0 false)] ?_
 refine qD [] [2] [] [93002, 93004] [(93004, .cells 27 [lf az f.Links, lf aO f.aC, .own 93518])] ?_
 refine A.ret ?_
 obtain rfl := some_inj hm
 exact A.fin W0 [.fz [93518]] rfl (by kernel_rfl)
theorem yl {f : aB} {m : bn} {r : aB} (hm : iV f m = some r) : RO Tryz.prog 92 [] [.agg (k11 f), .agg (k9 m)] (.agg (k11 r)) := by
 refine aT Tryz.func92 rfl rfl ?_
 unfold iV at hm
 refine qS [(0, .al 92002), (1, .al 92003), (2, .al 92004)] [(2, .ptr 92002 0), (3, .ptr 92003 0), (4, .ptr 92004 0)] [(92002, .cells 27 (k11 f)), (92003, .cells 62 (k9 m)), (92004, .cells 27 [.aG, .aG, .aG])] ?_
 refine A.seq ?_
 obtain ⟨af, h1, hm⟩ := aa hm
 obtain ⟨ay, h2, hm⟩ := aa hm
 refine qDs [(1, hro (dS h1) vN), (6, hro (pL h2) ahN)] [] [(6, .bool ay.2)] ?_
 refine qDs [] [6] [(24, .bool (!ay.2))] ?_
 rcases ai hm with ⟨c1,hm⟩|⟨c1,hm⟩
 ·refine qT c1 ?_
  refine qS [] [(4, .ptr 92004 0)] [(92004, .cells 27 (k11 f))] ?_
  cases hm
  exact A.ret qE
 refine qF c1 ?_
 refine A.skip ?_
 show ah _ _ _ _ _
 obtain ⟨aK, h3, hm⟩ := aa hm
 refine qDs [(3, hro (eZ h3) vO)] [24] [(7, i6 aK)] ?_
 obtain ⟨e_1, h4, hm⟩ := aa hm
 refine qD [(3, hix (ix aO h4)), (5, .al 92008)] [] [(8, .ptr 92008 0)] [] [(92008, .cells 81 (k8 e_1))] ?_
 obtain ⟨bh, h5, hm⟩ := aa hm
 refine qD [(4, hro (zl h5) atH)] [] [] [92008] [(92008, .cells 81 [i6 e_1.ak, i6 e_1.Seq, .bool e_1.aX, lf aS e_1.Claims, lf aH bh.1.aq])] ?_
 obtain ⟨bI, h6, hm⟩ := aa hm
 refine qD [(3, hro (uF h6) apw)] [] [] [92002] [(92002, .cells 27 (k11 bI))] ?_
 obtain ⟨bV, h7, hm⟩ := aa hm
 refine qD [(4, hro (uE h7) aps), (8, .al 92009)] [3] [(9, .ptr 92009 0), (10, .bool bV.2)] [92003] [(92009, .cells 50 (k6 bV.1))] ?_
 refine A.seq ?_
 refine qDs [] [10] [(57, .bool (!bV.2))] ?_
 rcases ai hm with ⟨c2,hm⟩|⟨c2,hm⟩
 ·refine qT c2 ?_
  refine qS [] [(4, .ptr 92004 0)] [(92004, .cells 27 (k11 bI))] ?_
  cases hm
  exact A.ret qE
 refine qF c2 ?_
 refine A.skip ?_
 show ah _ _ _ _ _
 obtain ⟨cD, h8, hm⟩ := aa hm
 refine qD [(4, hro (vr h8) apt), (8, .al 92011)] [57] [(11, .ptr 92011 0), (12, .bool cD.2)] [] [(92011, .cells 50 (k6 cD.1))] ?_
 refine A.seq ?_
 obtain ⟨J1, hJ1, hm⟩ := bJ hm
 refine A.J (J := J1) (r := r) (fun v_1 => [(2, .ptr 92002 0), (4, .ptr 92004 0), (7, i6 aK), (9, .ptr 92009 0), (83, .bool v_1)]) (fun v_1 => [(92002, .cells 27 (k11 bI)), (92004, .cells 27 [.aG, .aG, .aG]), (92009, .cells 50 (k6 bV.1))]) ?_ ?_
 ·rcases ai hm with ⟨c3,hm⟩|⟨c3,hm⟩
  ·rcases ai hm with ⟨c4,hm⟩|⟨c4,hm⟩
   ·obtain ⟨dg, h9, hm⟩ := aa hm
    rcases ai hm with ⟨c5,hm⟩|⟨c5,hm⟩
    ·refine qG [(3, hto (bE c3)), (6, hto (bE c4)), (9, hro (qB h9) ahH), (11, hto (bE c5))] [8, 11, 12] [(83, .bool true)] [92008, 92011] [] ?_
     exact qX true hm
    refine qG [(3, hto (bE c3)), (6, hto (bE c4)), (9, hro (qB h9) ahH), (11, hto (bE c5))] [8, 11, 12] [(83, .bool (decide ((1000000:Int) < w64 (bV.1.Seq + (1:Int)))))] [92008, 92011] [] ?_
    exact qX (decide ((1000000:Int) < w64 (bV.1.Seq + (1:Int)))) hm
   refine qG [(3, hto (bE c3)), (6, hto (bE c4))] [8, 11, 12] [(83, .bool (decide ((1000000:Int) < w64 (bV.1.Seq + (1:Int)))))] [92008, 92011] [] ?_
   exact qX (decide ((1000000:Int) < w64 (bV.1.Seq + (1:Int)))) hm
  refine qG [(3, hto (bE c3))] [8, 11, 12] [(83, .bool (decide ((1000000:Int) < w64 (bV.1.Seq + (1:Int)))))] [92008, 92011] [] ?_
  exact qX (decide ((1000000:Int) < w64 (bV.1.Seq + (1:Int)))) hm
 rintro v_1 hm
 rw [hJ1] at hm
 rcases ai hm with ⟨c6,hm⟩|⟨c6,hm⟩
 ·refine qT c6 ?_
  refine qS [] [(4, .ptr 92004 0)] [(92004, .cells 27 (k11 bI))] ?_
  cases hm
  exact A.ret qE
 refine qF c6 ?_
 refine A.skip ?_
 show ah _ _ _ _ _
 obtain ⟨dB, h10, hm⟩ := aa hm
 refine qS [(5, hro (zm h10) ck76)] [(4, .ptr 92004 0)] [(92004, .cells 27 (k11 dB))] ?_
 cases hm
 exact A.ret qE
theorem ua {f : aB} {r : aB} (hm : jK f = some r) : RO Tryz.prog 58 [] [.agg (k11 f)] (.agg (k11 r)) := by
 refine aT Tryz.func58 rfl rfl ?_
 unfold jK at hm
 refine qS [(0, .al 58001), (1, .al 58002)] [(1, .ptr 58001 0), (2, .ptr 58002 0)] [(58001, .cells 27 (k11 f)), (58002, .cells 27 [.aG, .aG, .aG])] ?_
 refine A.seq ?_
 refine A.block ?_
 obtain ⟨F1, n1, hF1, hm⟩ := fC hm
 refine A.lpW (F := F1) hm (fun sg => match sg with | (m_1, m_2, m_3) => [(1, .ptr 58001 0), (2, .ptr 58002 0)]) (fun sg => match sg with | (m_1, m_2, m_3) => [(58001, .cells 27 [lf az m_1, lf aO m_2, lf aN m_3]), (58002, .cells 27 [.aG, .aG, .aG])]) ?_ ?_
 ·exact qW
 rintro Z1 ⟨m_1, m_2, m_3⟩ hm
 rw [hF1] at hm
 refine A.seq ?_
 refine qDs [(2, hto (lnE aN m_3))] [] [(7, .bool (decide ((0:Int) < (m_3.length:Int))))] ?_
 rcases ai hm with ⟨c1,hm⟩|⟨c1,hm⟩
 ·refine qT c1 ?_
  refine A.skip ?_
  show ah _ _ _ _ _
  refine A.block ?_
  obtain ⟨e_1, h1, hm⟩ := aa hm
  refine qD [(2, hix (ix aN h1)), (4, .al 58003)] [7] [(3, .ptr 58003 0)] [] [(58003, .cells 62 (k9 e_1))] ?_
  obtain ⟨af, h2, hm⟩ := aa hm
  obtain ⟨ay, h3, hm⟩ := aa hm
  refine qG [(1, hro (xg h2) ck93), (3, hro (yl h3) ck92)] [3] [] [58001, 58003] [(58001, .cells 27 (k11 ay))] ?_
  exact qX (ay.Links, ay.aC, ay.aA) hm
 refine qF c1 ?_
 refine A.exit ?_
 show ah _ _ _ _ _
 refine qS [] [(2, .ptr 58002 0)] [(58002, .cells 27 [lf az m_1, lf aO m_2, lf aN m_3])] ?_
 cases hm
 exact A.ret qE
theorem zn {f : aB} {r : aB × Int} (hm : nB f = some r) : RO Tryz.prog 14 [] [.agg (k11 f)] (.tup [.agg (k11 r.1), i6 r.2]) := by
 refine aT Tryz.func14 rfl rfl ?_
 unfold nB at hm
 refine qS [(0, .al 14001), (1, .al 14002)] [(1, .ptr 14001 0), (2, .ptr 14002 0)] [(14001, .cells 27 (k11 f)), (14002, .cells 27 [.aG, .aG, .aG])] ?_
 refine A.seq ?_
 obtain ⟨af, h1, hm⟩ := aa hm
 refine qDs [(1, hro (tZ h1) apn)] [] [(7, .bool (!af))] ?_
 rcases ai hm with ⟨c1,hm⟩|⟨c1,hm⟩
 ·refine qT c1 ?_
  refine qD [] [1, 7] [(3, i6 1)] [14001] [] ?_
  cases hm
  exact A.ret qE
 refine qF c1 ?_
 refine A.skip ?_
 show ah _ _ _ _ _
 obtain ⟨ay, h2, hm⟩ := aa hm
 refine qD [(1, hro (ua h2) apo)] [7] [] [14001] [(14001, .cells 27 (k11 ay))] ?_
 refine A.seq ?_
 refine qDs [] [] [(4, i6 0)] ?_
 refine A.block ?_
 obtain ⟨F1, n1, hF1, hm⟩ := fC hm
 refine A.lpW (F := F1) hm (fun sg => match sg with | (i_1, m_1, m_2, m_3) => [(1, .ptr 14001 0), (2, .ptr 14002 0), (4, i6 i_1)]) (fun sg => match sg with | (i_1, m_1, m_2, m_3) => [(14001, .cells 27 [lf az m_1, lf aO m_2, lf aN m_3]), (14002, .cells 27 [.aG, .aG, .aG])]) ?_ ?_
 ·exact qW
 rintro Z1 ⟨i_1, m_1, m_2, m_3⟩ hm
 rw [hF1] at hm
 refine A.seq ?_
 refine qDs [(3, hto (lnE aO m_2))] [] [(15, .bool (decide (i_1 < (m_2.length:Int))))] ?_
 rcases ai hm with ⟨c2,hm⟩|⟨c2,hm⟩
 ·refine qT c2 ?_
  refine A.skip ?_
  show ah _ _ _ _ _
  refine A.seq ?_
  refine A.block ?_
  obtain ⟨e_1, h3, hm⟩ := aa hm
  obtain ⟨aK, h4, hm⟩ := aa hm
  refine qG [(4, hix (ix aO h3)), (7, hro (zV h4) ck33)] [15] [] [14001] [(14001, .cells 27 (k11 aK.1))] ?_
  show ah _ _ _ _ _
  refine qGs [] [4] [(4, i6 (w64 (i_1 + (1:Int))))] ?_
  exact qX (w64 (i_1 + (1:Int)), aK.1.Links, aK.1.aC, aK.1.aA) hm
 refine qF c2 ?_
 refine A.exit ?_
 show ah _ _ _ _ _
 obtain ⟨bh, h5, hm⟩ := aa hm
 refine qS [(1, hro (ua h5) apo)] [(2, .ptr 14002 0), (3, i6 0)] [(14002, .cells 27 (k11 bh))] ?_
 cases hm
 exact A.ret qE
theorem uG {a : aB} {b : aB} {r : Bool} (hm : ou a b = some r) : RO Tryz.prog 15 [] [.agg (k11 a), .agg (k11 b)] (.bool r) := by
 refine aT Tryz.func15 rfl rfl ?_
 unfold ou at hm
 refine qS [(0, .al 15002), (1, .al 15003)] [(2, .ptr 15002 0), (3, .ptr 15003 0)] [(15002, .cells 27 (k11 a)), (15003, .cells 27 (k11 b))] ?_
 refine A.seq ?_
 obtain ⟨J1, hJ1, hm⟩ := bJ hm
 refine A.J (J := J1) (r := r) (fun v_1 => [(2, .ptr 15002 0), (3, .ptr 15003 0), (26, .bool v_1)]) (fun v_1 => [(15002, .cells 27 (k11 a)), (15003, .cells 27 (k11 b))]) ?_ ?_
 ·obtain ⟨af, h1, hm⟩ := aa hm
  obtain ⟨ay, h2, hm⟩ := aa hm
  obtain ⟨aK, h3, hm⟩ := aa hm
  rcases ai hm with ⟨c1,hm⟩|⟨c1,hm⟩
  ·refine qGs [(1, hro (dS h1) vN), (3, hro (dS h2) vN), (4, hro (uB h3) apg), (6, hto (bE c1))] [] [(26, .bool true)] ?_
   exact qX true hm
  refine qGs [(1, hro (dS h1) vN), (3, hro (dS h2) vN), (4, hro (uB h3) apg), (6, hto (bE c1)), (9, hto (lnE aN a.aA)), (12, hto (lnE aN b.aA))] [] [(26, .bool (!decide ((a.aA.length:Int) = (b.aA.length:Int))))] ?_
  exact qX (!decide ((a.aA.length:Int) = (b.aA.length:Int))) hm
 rintro v_1 hm
 rw [hJ1] at hm
 rcases ai hm with ⟨c2,hm⟩|⟨c2,hm⟩
 ·refine qT c2 ?_
  refine qS [] [(4, .bool false)] [] ?_
  cases hm
  exact A.ret qE
 refine qF c2 ?_
 refine A.skip ?_
 show ah _ _ _ _ _
 refine A.seq ?_
 refine qDs [] [26] [(5, i6 0)] ?_
 refine A.block ?_
 refine A.bC 2 1 rfl rfl rfl fun hb1 => ?_
 obtain ⟨B1, K1, hB1, hK1, hm⟩ := bt hm
 refine A.lpI (l := a.aC) (j0 := 0) (B := B1) (K := K1) hm (fun j1 => fun sg => match sg with | () => [(2, .ptr 15002 0), (3, .ptr 15003 0), (5, i6 (j1 : Int))]) (fun j1 => fun sg => match sg with | () => [(15002, .cells 27 (k11 a)), (15003, .cells 27 (k11 b))]) ?_ ?_ ?_
 ·exact qW
 ·rintro j1 e1 Z1 ⟨⟩ hj1 hx1 hm
  rw [hB1] at hm
  refine A.seq ?_
  refine qDs [(3, hto (lnE aO a.aC))] [] [(31, .bool (decide ((j1 : Int) < (a.aC.length:Int))))] ?_
  refine qT (ltT hx1) ?_
  refine A.skip ?_
  show ah _ _ _ _ _
  refine A.seq ?_
  refine A.block ?_
  obtain ⟨e_1, h4, hm⟩ := aa hm
  refine qD [(3, hix (ix aO (bf hx1))), (8, hix (ix aO h4)), (10, .al 15006), (11, .al 15007)] [31] [(6, .ptr 15006 0), (7, .ptr 15007 0)] [] [(15006, .cells 81 (k8 e1)), (15007, .cells 81 (k8 e_1))] ?_
  refine A.seq ?_
  obtain ⟨J2, hJ2, hm⟩ := bJ hm
  refine A.J (J := J2) (r := r) (fun v_2 => [(2, .ptr 15002 0), (3, .ptr 15003 0), (5, i6 (j1 : Int)), (6, .ptr 15006 0), (7, .ptr 15007 0), (65, .bool v_2)]) (fun v_2 => [(15002, .cells 27 (k11 a)), (15003, .cells 27 (k11 b)), (15006, .cells 81 (k8 e1)), (15007, .cells 81 (k8 e_1))]) ?_ ?_
  ·rcases ai hm with ⟨c3,hm⟩|⟨c3,hm⟩
   ·refine qGs [(5, hto (bE c3))] [] [(65, .bool true)] ?_
    exact qX true hm
   obtain ⟨bh, h5, hm⟩ := aa hm
   rcases ai hm with ⟨c4,hm⟩|⟨c4,hm⟩
   ·refine qGs [(5, hto (bE c3)), (10, hro (qC h5) ahJ), (13, hto (bE c4))] [] [(65, .bool true)] ?_
    exact qX true hm
   refine qGs [(5, hto (bE c3)), (10, hro (qC h5) ahJ), (13, hto (bE c4)), (16, hto (lnE aS e1.Claims)), (19, hto (lnE aS e_1.Claims))] [] [(65, .bool (!decide ((e1.Claims.length:Int) = (e_1.Claims.length:Int))))] ?_
   exact qX (!decide ((e1.Claims.length:Int) = (e_1.Claims.length:Int))) hm
  rintro v_2 hm
  rw [hJ2] at hm
  rcases ai hm with ⟨c5,hm⟩|⟨c5,hm⟩
  ·refine qT c5 ?_
   refine qS [] [(4, .bool false)] [] ?_
   cases hm
   exact A.ret qE
  refine qF c5 ?_
  refine A.skip ?_
  show ah _ _ _ _ _
  refine qDs [] [65] [(8, i6 0)] ?_
  refine A.block ?_
  refine A.bC 6 3 rfl rfl rfl fun hb2 => ?_
  obtain ⟨B2, K2, hB2, hK2, hm⟩ := bt hm
  refine A.lpI (l := e1.Claims) (j0 := 0) (B := B2) (K := K2) hm (fun j2 => fun sg => match sg with | () => [(2, .ptr 15002 0), (3, .ptr 15003 0), (5, i6 (j1 : Int)), (6, .ptr 15006 0), (7, .ptr 15007 0), (8, i6 (j2 : Int))]) (fun j2 => fun sg => match sg with | () => [(15002, .cells 27 (k11 a)), (15003, .cells 27 (k11 b)), (15006, .cells 81 (k8 e1)), (15007, .cells 81 (k8 e_1))]) ?_ ?_ ?_
  ·exact qW
  ·rintro j2 e2 Z2 ⟨⟩ hj2 hx2 hm
   rw [hB2] at hm
   refine A.seq ?_
   refine qDs [(3, hto (lnE aS e1.Claims))] [] [(70, .bool (decide ((j2 : Int) < (e1.Claims.length:Int))))] ?_
   refine qT (ltT hx2) ?_
   refine A.skip ?_
   show ah _ _ _ _ _
   refine A.seq ?_
   refine A.block ?_
   obtain ⟨e_2, h6, hm⟩ := aa hm
   refine qDs [(3, hix (ix aS (bf hx2))), (8, hix (ix aS h6)), (10, .sq true 85 (.agg (k4 e2)) (.agg (k4 e_2)) (!(gH e2 e_2)) (fun x y w => yR x y _ _ _ _ _ _ w))] [70] [(83, .bool (!(gH e2 e_2)))] ?_
   rcases ai hm with ⟨c6,hm⟩|⟨c6,hm⟩
   ·refine qT c6 ?_
    refine qS [] [(4, .bool false)] [] ?_
    cases hm
    exact A.ret qE
   refine qF c6 ?_
   refine A.skip ?_
   show ah _ _ _ _ _
   refine qGs [(1, hto (inc hx2 hb2))] [8, 83] [(8, i6 ((j2 + 1 : Nat) : Int))] ?_
   exact qX () hm
  rintro j2 ⟨⟩ hj2 hl2 hm
  rw [hK2] at hm
  refine A.seq ?_
  refine qDs [(3, hto (lnE aS e1.Claims))] [] [(70, .bool (decide ((j2 : Int) < (e1.Claims.length:Int))))] ?_
  refine qF (ltF hl2) ?_
  refine A.exit ?_
  show ah _ _ _ _ _
  refine qG [(1, hto (inc hx1 hb1))] [5, 6, 7, 8, 70] [(5, i6 ((j1 + 1 : Nat) : Int))] [15006, 15007] [] ?_
  exact qX () hm
 rintro j1 ⟨⟩ hj1 hl1 hm
 rw [hK1] at hm
 refine A.seq ?_
 refine qDs [(3, hto (lnE aO a.aC))] [] [(31, .bool (decide ((j1 : Int) < (a.aC.length:Int))))] ?_
 refine qF (ltF hl1) ?_
 refine A.exit ?_
 show ah _ _ _ _ _
 refine A.seq ?_
 refine qDs [] [5, 31] [(9, i6 0)] ?_
 refine A.block ?_
 refine A.bC 2 2 rfl rfl rfl fun hb3 => ?_
 obtain ⟨B3, K3, hB3, hK3, hm⟩ := bt hm
 refine A.lpI (l := a.aA) (j0 := 0) (B := B3) (K := K3) hm (fun j3 => fun sg => match sg with | () => [(2, .ptr 15002 0), (3, .ptr 15003 0), (9, i6 (j3 : Int))]) (fun j3 => fun sg => match sg with | () => [(15002, .cells 27 (k11 a)), (15003, .cells 27 (k11 b))]) ?_ ?_ ?_
 ·exact qW
 ·rintro j3 e3 Z3 ⟨⟩ hj3 hx3 hm
  rw [hB3] at hm
  refine A.seq ?_
  refine qDs [(3, hto (lnE aN a.aA))] [] [(88, .bool (decide ((j3 : Int) < (a.aA.length:Int))))] ?_
  refine qT (ltT hx3) ?_
  refine A.skip ?_
  show ah _ _ _ _ _
  refine A.seq ?_
  refine A.block ?_
  obtain ⟨e_3, h7, hm⟩ := aa hm
  refine qD [(3, hix (ix aN (bf hx3))), (8, hix (ix aN h7)), (10, .al 15010), (11, .al 15011)] [88] [(10, .ptr 15010 0), (11, .ptr 15011 0)] [] [(15010, .cells 62 (k9 e3)), (15011, .cells 62 (k9 e_3))] ?_
  obtain ⟨J3, hJ3, hm⟩ := bJ hm
  refine A.J (J := J3) (r := r) (fun v_3 => [(2, .ptr 15002 0), (3, .ptr 15003 0), (9, i6 (j3 : Int)), (120, .bool v_3)]) (fun v_3 => [(15002, .cells 27 (k11 a)), (15003, .cells 27 (k11 b))]) ?_ ?_
  ·rcases ai hm with ⟨c7,hm⟩|⟨c7,hm⟩
   ·refine qG [(5, hto (bE c7))] [10, 11] [(120, .bool true)] [15010, 15011] [] ?_
    exact qX true hm
   rcases ai hm with ⟨c8,hm⟩|⟨c8,hm⟩
   ·refine qG [(5, hto (bE c7)), (12, hto (bE c8))] [10, 11] [(120, .bool true)] [15010, 15011] [] ?_
    exact qX true hm
   obtain ⟨bI, h8, hm⟩ := aa hm
   refine qG [(5, hto (bE c7)), (12, hto (bE c8)), (17, hro (qC h8) ahJ)] [10, 11] [(120, .bool (!bI))] [15010, 15011] [] ?_
   exact qX (!bI) hm
  rintro v_3 hm
  rw [hJ3] at hm
  rcases ai hm with ⟨c9,hm⟩|⟨c9,hm⟩
  ·refine qT c9 ?_
   refine qS [] [(4, .bool false)] [] ?_
   cases hm
   exact A.ret qE
  refine qF c9 ?_
  refine A.skip ?_
  show ah _ _ _ _ _
  refine qGs [(1, hto (inc hx3 hb3))] [9, 120] [(9, i6 ((j3 + 1 : Nat) : Int))] ?_
  exact qX () hm
 rintro j3 ⟨⟩ hj3 hl3 hm
 rw [hK3] at hm
 refine A.seq ?_
 refine qDs [(3, hto (lnE aN a.aA))] [] [(88, .bool (decide ((j3 : Int) < (a.aA.length:Int))))] ?_
 refine qF (ltF hl3) ?_
 refine A.exit ?_
 show ah _ _ _ _ _
 refine qS [] [(4, .bool true)] [] ?_
 cases hm
 exact A.ret qE
end Go.Proofs.YtpmifmdidfgpdaaGreat
