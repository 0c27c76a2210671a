/- The eC of cr of the program. No condition but bT bB stand in each. -/
import Derived.Test.YtpmifmdidfgpdaaGreatDA
import Derived.Test.YtpmifmdidfgpdaaGreatVU
import Derived.Test.YtpmifmdidfgpdaaGreatVK
import Derived.Test.YtpmifmdidfgpdaaGreatV5
namespace Go.Proofs.YtpmifmdidfgpdaaGreat
open Go
set_option maxRecDepth 100000
set_option linter.all false
theorem fA {f : aB} {r : aD} (hm : dI f = some r) : bM Tryz.prog 22 [] [.agg (k11 f)] (fun a σ' => a = .agg [.own 500002200, .own 500002201] ∧ σ' = [(500002200, .slice 87 2 (ml aU r.aI) 0 false), (500002201, .slice 78 5 (ml az r.Links) 0 false)]) := by
 refine aT Tryz.func22 rfl rfl ?_
 unfold dI at hm
 refine qS [(0, .al 22001), (1, .al 22002)] [(1, .ptr 22001 0), (2, .ptr 22002 0)] [(22001, .cells 27 (k11 f)), (22002, .cells 44 [.aG, .aG])] ?_
 obtain ⟨af, h1, hm⟩ := aa hm
 refine qD [(2, hdc [500007100] (fV h1) ahL), (4, .al 22003)] [] [(3, .ptr 22003 0)] [] [(500007100, .slice 78 5 (ml az af) 0 false), (22003, .cells 44 [.aG, .own 500007100])] ?_
 refine A.seq ?_
 refine qD [(2, hto (lnE aO f.aC))] [1] [(11, lf aO f.aC), (12, i6 (f.aC.length:Int)), (13, i6 0)] [22001] [] ?_
 refine A.block ?_
 refine A.bS 11 rfl fun hb1 => ?_
 obtain ⟨B1, K1, hB1, hK1, hm⟩ := bt hm
 refine A.lpI (l := f.aC) (j0 := 0) (B := B1) (K := K1) hm (fun j1 => fun m_1 => [(2, .ptr 22002 0), (3, .ptr 22003 0), (11, lf aO f.aC), (12, i6 (f.aC.length:Int)), (13, i6 (j1 : Int))]) (fun j1 => fun m_1 => [(22002, .cells 44 [.aG, .aG]), (500007100, .slice 78 5 (ml az af) 0 false), (22003, .cells 44 [.own 702200300, .own 500007100]), (702200300, .slice 87 2 (ml aU m_1) 0 false)]) ?_ ?_ ?_
 ·exact bA.go [.ac 22003 702200300 87 2 0] [] (by kernel_rfl)
 ·rintro j1 e1 Z1 m_1 hj1 hx1 hm
  rw [hB1] at hm
  refine qDs [] [] [(14, .bool (decide ((j1 : Int) < (f.aC.length:Int))))] ?_
  refine A.seq ?_
  refine qT (ltT hx1) ?_
  refine A.skip ?_
  show ah _ _ _ _ _
  refine A.seq ?_
  refine A.block ?_
  refine qD [(0, hix (ix aO (bf hx1))), (2, .al 22005)] [14] [(5, .ptr 22005 0)] [] [(22005, .cells 81 (k8 e1))] ?_
  obtain ⟨l_1, h2, hm⟩ := aa hm
  refine qG [(8, hap 22525 (ap aU (bytes := 16) (by decide) h2))] [5] [] [22003, 702200300, 22005] [(22003, .cells 44 [.own 22525, .own 500007100]), (22525, .slice 87 2 (ml aU l_1) 0 false)] ?_
  show ah _ _ _ _ _
  refine qGs [(0, hto (inc hx1 hb1))] [13] [(13, i6 ((j1 + 1 : Nat) : Int))] ?_
  exact Exists.intro l_1 (And.intro hm (bA.go [.sw 22525 702200300] [] (by kernel_rfl)))
 rintro j1 m_1 hj1 hl1 hm
 rw [hK1] at hm
 refine qDs [] [] [(14, .bool (decide ((j1 : Int) < (f.aC.length:Int))))] ?_
 refine A.seq ?_
 refine qF (ltF hl1) ?_
 refine A.exit ?_
 show ah _ _ _ _ _
 refine qD [] [3, 11, 12, 13, 14] [] [22002, 22003] [(22002, .cells 44 [.own 702200300, .own 500007100])] ?_
 refine A.ret ?_
 obtain rfl := some_inj hm
 exact A.fin W0 [.sw 702200300 500002200, .sw 500007100 500002201] rfl (by kernel_rfl)
theorem vV {n : aV} {c_0 : Int} {r : Bool} (hm : lY n c_0 = some r) : RO Tryz.prog 116 [] [.agg (k8 n), .dO [i6 c_0]] (.bool r) := by
 refine aT Tryz.func116 rfl rfl ?_
 unfold lY at hm
 refine qS [(0, .al 116002)] [(1, .dO [i6 c_0]), (2, .ptr 116002 0)] [(116002, .cells 81 (k8 n))] ?_
 refine qS [] [(3, .bool (decide (n.ak = c_0)))] [] ?_
 cases hm
 exact A.ret qE
theorem jq {f : aB} {aJ : Int} {r : Int × Bool} (hm : fI f aJ = some r) : RO Tryz.prog 63 [] [.agg (k11 f), i6 aJ] (.tup [i6 r.1, .bool r.2]) := by
 refine aT Tryz.func63 rfl rfl ?_
 unfold fI at hm
 refine qS [(0, .al 63002), (1, .al 63003)] [(2, .ptr 63002 0), (3, .ptr 63003 0)] [(63002, .cells 27 (k11 f)), (63003, .cells 3 [i6 aJ])] ?_
 obtain ⟨af, h1, hm⟩ := aa hm
 refine qS [(3, hle [63003] (mS (f_g := 116) (f_c := [.dO [i6 aJ]]) (f_k := atu) (f_f := fun _ _ h => vV h) h1) att)] [(6, i6 af)] [] ?_
 refine qS [] [(4, i6 af), (5, .bool (decide ((0:Int) ≤ af)))] [] ?_
 cases hm
 exact A.ret qE
theorem gD {f : aB} {r : Int} (hm : eY f = some r) : RO Tryz.prog 17 [] [.agg (k11 f)] (i6 r) := by
 refine aT Tryz.func17 rfl rfl ?_
 unfold eY at hm
 refine qS [(0, .al 17001)] [(1, .ptr 17001 0)] [(17001, .cells 27 (k11 f))] ?_
 refine A.seq ?_
 obtain ⟨J1, hJ1, hm⟩ := bJ hm
 refine A.J (J := J1) (r := r) (fun v_1 => [(1, .ptr 17001 0), (20, .bool v_1)]) (fun v_1 => [(17001, .cells 27 (k11 f))]) ?_ ?_
 ·obtain ⟨af, h1, hm⟩ := aa hm
  obtain ⟨ay, h2, hm⟩ := aa hm
  rcases ai hm with ⟨c1,hm⟩|⟨c1,hm⟩
  ·refine qGs [(1, hdc [510017001, 510017002] (SC.at [(500002200, 510017001), (500002201, 510017002)] (fA h1)) aav), (2, hle [510017001, 510017002] (iH h2) ace), (4, hto (bE c1))] [] [(20, .bool true)] ?_
   exact qX true hm
  refine qGs [(1, hdc [510017001, 510017002] (SC.at [(500002200, 510017001), (500002201, 510017002)] (fA h1)) aav), (2, hle [510017001, 510017002] (iH h2) ace), (4, hto (bE c1)), (7, hto (lnE aN f.aA))] [] [(20, .bool (decide ((400:Int) < (f.aA.length:Int))))] ?_
  exact qX (decide ((400:Int) < (f.aA.length:Int))) hm
 rintro v_1 hm
 rw [hJ1] at hm
 rcases ai hm with ⟨c2,hm⟩|⟨c2,hm⟩
 ·refine qT c2 ?_
  refine qS [] [(2, i6 1)] [] ?_
  cases hm
  exact A.ret qE
 refine qF c2 ?_
 refine A.skip ?_
 show ah _ _ _ _ _
 refine A.seq ?_
 refine qDs [(2, hto (lnE aO f.aC))] [20] [(22, lf aO f.aC), (23, i6 (f.aC.length:Int)), (24, i6 0)] ?_
 refine A.block ?_
 refine A.bS 22 rfl fun hb1 => ?_
 obtain ⟨B1, K1, hB1, hK1, hm⟩ := bt hm
 refine A.lpI (l := f.aC) (j0 := 0) (B := B1) (K := K1) hm (fun j1 => fun sg => match sg with | () => [(1, .ptr 17001 0), (22, lf aO f.aC), (23, i6 (f.aC.length:Int)), (24, i6 (j1 : Int))]) (fun j1 => fun sg => match sg with | () => [(17001, .cells 27 (k11 f))]) ?_ ?_ ?_
 ·exact qW
 ·rintro j1 e1 Z1 ⟨⟩ hj1 hx1 hm
  rw [hB1] at hm
  refine qDs [] [] [(25, .bool (decide ((j1 : Int) < (f.aC.length:Int))))] ?_
  refine A.seq ?_
  refine qT (ltT hx1) ?_
  refine A.skip ?_
  show ah _ _ _ _ _
  refine A.seq ?_
  refine A.block ?_
  refine qD [(0, hix (ix aO (bf hx1))), (2, .al 17004)] [25] [(4, .ptr 17004 0)] [] [(17004, .cells 81 (k8 e1))] ?_
  obtain ⟨J2, hJ2, hm⟩ := bJ hm
  refine A.J (J := J2) (r := r) (fun v_2 => [(1, .ptr 17001 0), (22, lf aO f.aC), (23, i6 (f.aC.length:Int)), (24, i6 (j1 : Int)), (50, .bool v_2)]) (fun v_2 => [(17001, .cells 27 (k11 f))]) ?_ ?_
  ·rcases ai hm with ⟨c3,hm⟩|⟨c3,hm⟩
   ·refine qG [(3, hto (bE c3))] [4] [(50, .bool true)] [17004] [] ?_
    exact qX true hm
   rcases ai hm with ⟨c4,hm⟩|⟨c4,hm⟩
   ·refine qG [(3, hto (bE c3)), (8, hto (bE c4))] [4] [(50, .bool true)] [17004] [] ?_
    exact qX true hm
   obtain ⟨aK, h3, hm⟩ := aa hm
   rcases ai hm with ⟨c5,hm⟩|⟨c5,hm⟩
   ·refine qG [(3, hto (bE c3)), (8, hto (bE c4)), (14, hro (iu h3) aaw), (17, hto (bE c5))] [4] [(50, .bool true)] [17004] [] ?_
    exact qX true hm
   obtain ⟨bh, h4, hm⟩ := aa hm
   refine qG [(3, hto (bE c3)), (8, hto (bE c4)), (14, hro (iu h3) aaw), (17, hto (bE c5)), (20, hro (fE h4) y6)] [4] [(50, .bool (!decide (bh = (0:Int))))] [17004] [] ?_
   exact qX (!decide (bh = (0:Int))) hm
  rintro v_2 hm
  rw [hJ2] at hm
  rcases ai hm with ⟨c6,hm⟩|⟨c6,hm⟩
  ·refine qT c6 ?_
   refine qS [] [(2, i6 1)] [] ?_
   cases hm
   exact A.ret qE
  refine qF c6 ?_
  refine A.skip ?_
  show ah _ _ _ _ _
  refine qGs [(0, hto (inc hx1 hb1))] [24, 50] [(24, i6 ((j1 + 1 : Nat) : Int))] ?_
  exact qX () hm
 rintro j1 ⟨⟩ hj1 hl1 hm
 rw [hK1] at hm
 refine qDs [] [] [(25, .bool (decide ((j1 : Int) < (f.aC.length:Int))))] ?_
 refine A.seq ?_
 refine qF (ltF hl1) ?_
 refine A.exit ?_
 show ah _ _ _ _ _
 refine A.seq ?_
 refine qDs [(2, hto (lnE aN f.aA))] [22, 23, 24, 25] [(53, lf aN f.aA), (54, i6 (f.aA.length:Int)), (55, i6 0)] ?_
 refine A.block ?_
 refine A.bS 53 rfl fun hb2 => ?_
 obtain ⟨B2, K2, hB2, hK2, hm⟩ := bt hm
 refine A.lpI (l := f.aA) (j0 := 0) (B := B2) (K := K2) hm (fun j2 => fun sg => match sg with | () => [(1, .ptr 17001 0), (53, lf aN f.aA), (54, i6 (f.aA.length:Int)), (55, i6 (j2 : Int))]) (fun j2 => fun sg => match sg with | () => [(17001, .cells 27 (k11 f))]) ?_ ?_ ?_
 ·exact qW
 ·rintro j2 e2 Z2 ⟨⟩ hj2 hx2 hm
  rw [hB2] at hm
  refine qDs [] [] [(56, .bool (decide ((j2 : Int) < (f.aA.length:Int))))] ?_
  refine A.seq ?_
  refine qT (ltT hx2) ?_
  refine A.skip ?_
  show ah _ _ _ _ _
  refine A.seq ?_
  refine A.block ?_
  refine qD [(0, hix (ix aN (bf hx2))), (2, .al 17006)] [56] [(6, .ptr 17006 0)] [] [(17006, .cells 62 (k9 e2))] ?_
  obtain ⟨bI, h5, hm⟩ := aa hm
  refine qDs [(3, hro (jq h5) acf)] [] [(8, .bool bI.2)] ?_
  obtain ⟨bV, h6, hm⟩ := aa hm
  refine qDs [(3, hro (jq h6) acf)] [] [(10, .bool bV.2)] ?_
  obtain ⟨J3, hJ3, hm⟩ := bJ hm
  refine A.J (J := J3) (r := r) (fun v_3 => [(1, .ptr 17001 0), (53, lf aN f.aA), (54, i6 (f.aA.length:Int)), (55, i6 (j2 : Int)), (91, .bool v_3)]) (fun v_3 => [(17001, .cells 27 (k11 f))]) ?_ ?_
  ·rcases ai hm with ⟨c7,hm⟩|⟨c7,hm⟩
   ·refine qG [(2, hto (bE c7))] [6, 8, 10] [(91, .bool true)] [17006] [] ?_
    exact qX true hm
   rcases ai hm with ⟨c8,hm⟩|⟨c8,hm⟩
   ·refine qG [(2, hto (bE c7)), (6, hto (bE c8))] [6, 8, 10] [(91, .bool true)] [17006] [] ?_
    exact qX true hm
   rcases ai hm with ⟨c9,hm⟩|⟨c9,hm⟩
   ·refine qG [(2, hto (bE c7)), (6, hto (bE c8)), (13, hto (bE c9))] [6, 8, 10] [(91, .bool true)] [17006] [] ?_
    exact qX true hm
   obtain ⟨cD, h7, hm⟩ := aa hm
   refine qG [(2, hto (bE c7)), (6, hto (bE c8)), (13, hto (bE c9)), (16, hro (fE h7) y6)] [6, 8, 10] [(91, .bool (!decide (cD = (0:Int))))] [17006] [] ?_
   exact qX (!decide (cD = (0:Int))) hm
  rintro v_3 hm
  rw [hJ3] at hm
  rcases ai hm with ⟨c10,hm⟩|⟨c10,hm⟩
  ·refine qT c10 ?_
   refine qS [] [(2, i6 1)] [] ?_
   cases hm
   exact A.ret qE
  refine qF c10 ?_
  refine A.skip ?_
  show ah _ _ _ _ _
  refine qGs [(0, hto (inc hx2 hb2))] [55, 91] [(55, i6 ((j2 + 1 : Nat) : Int))] ?_
  exact qX () hm
 rintro j2 ⟨⟩ hj2 hl2 hm
 rw [hK2] at hm
 refine qDs [] [] [(56, .bool (decide ((j2 : Int) < (f.aA.length:Int))))] ?_
 refine A.seq ?_
 refine qF (ltF hl2) ?_
 refine A.exit ?_
 show ah _ _ _ _ _
 refine qS [] [(2, i6 0)] [] ?_
 cases hm
 exact A.ret qE
theorem oN {f : aB} {n : aV} {r : aj × Bool} (hm : iT f n = some r) : bM Tryz.prog 64 [] [.agg (k11 f), .agg (k8 n)] (fun a σ' => a = .tup [.agg [i6 r.1.ak, i6 r.1.Seq, .bool r.1.aX, .own 500006400, .own 500006401], .bool r.2] ∧ σ' = [(500006400, .slice 106 3 (ml bk r.1.Links) 0 false), (500006401, .slice 85 3 (ml aS r.1.Claims) 0 false)]) := by
 refine aT Tryz.func64 rfl rfl ?_
 unfold iT at hm
 refine qS [(0, .al 64002), (1, .al 64003), (2, .al 64004)] [(2, .ptr 64002 0), (3, .ptr 64003 0), (4, .ptr 64004 0)] [(64002, .cells 27 (k11 f)), (64003, .cells 81 (k8 n)), (64004, .cells 50 [i6 0, i6 0, .bool false, .aG, .aG])] ?_
 refine A.seq ?_
 refine qDs [] [] [(10, .bool (decide (n.Seq = (0:Int))))] ?_
 rcases ai hm with ⟨c1,hm⟩|⟨c1,hm⟩
 ·refine qT c1 ?_
  refine qD [] [2, 3, 10] [(5, .bool false)] [64002, 64003] [] ?_
  refine A.ret ?_
  obtain rfl := some_inj hm
  exact A.fin W0 [.ac 64004 500006400 106 3 3, .ac 64004 500006401 85 3 4] rfl (by kernel_rfl)
 refine qF c1 ?_
 refine A.skip ?_
 show ah _ _ _ _ _
 obtain ⟨af, h1, hm⟩ := aa hm
 obtain ⟨ay, h2, hm⟩ := aa hm
 refine qD [(1, hdc [500002200, 500002201] (fA h1) aav), (8, hdl [500002200, 500002201] [500011700, 500011701] (aaE h2) atv ⟨kP bk (fun _ => rfl) _, kP aS (fun _ => rfl) _, trivial⟩), (12, .al 64006)] [2, 3, 10] [(6, .ptr 64006 0), (7, i6 ay.2)] [64002, 64003] [(64006, .cells 50 [i6 ay.1.ak, i6 ay.1.Seq, .bool ay.1.aX, .own 500011700, .own 500011701]), (500011700, .slice 106 3 (ml bk ay.1.Links) 0 false), (500011701, .slice 85 3 (ml aS ay.1.Claims) 0 false)] ?_
 refine qD [] [6, 7] [(5, .bool (decide (ay.2 = (0:Int))))] [64004, 64006] [(64004, .cells 50 [i6 ay.1.ak, i6 ay.1.Seq, .bool ay.1.aX, .own 500011700, .own 500011701])] ?_
 refine A.ret ?_
 obtain rfl := some_inj hm
 exact A.fin W0 [.sw 500011700 500006400, .sw 500011701 500006401] rfl (by kernel_rfl)
theorem jI {d : aF} {r : aF} (hm : ec d = some r) : RO Tryz.prog 82 [] [.agg (k7 d)] (.agg (k7 r)) := by
 refine aT Tryz.func82 rfl rfl ?_
 unfold ec at hm
 refine qS [(0, .al 82001), (1, .al 82002)] [(1, .ptr 82001 0), (2, .ptr 82002 0)] [(82001, .cells 60 (k7 d)), (82002, .cells 60 [.aG])] ?_
 refine qD [(0, .al 82003)] [] [(3, .ptr 82003 0)] [] [(82003, .cells 60 [.aG])] ?_
 refine A.seq ?_
 refine qD [(2, hto (lnE aH d.aq))] [1] [(7, lf aH d.aq), (8, i6 (d.aq.length:Int)), (9, i6 0)] [82001] [] ?_
 refine A.block ?_
 refine A.bS 7 rfl fun hb1 => ?_
 obtain ⟨B1, K1, hB1, hK1, hm⟩ := bt hm
 refine A.lpI (l := d.aq) (j0 := 0) (B := B1) (K := K1) hm (fun j1 => fun m_1 => [(2, .ptr 82002 0), (3, .ptr 82003 0), (7, lf aH d.aq), (8, i6 (d.aq.length:Int)), (9, i6 (j1 : Int))]) (fun j1 => fun m_1 => [(82002, .cells 60 [.aG]), (82003, .cells 60 [.own 708200300]), (708200300, .slice 50 5 (ml aH m_1) 0 false)]) ?_ ?_ ?_
 ·exact bA.go [.ac 82003 708200300 50 5 0] [] (by kernel_rfl)
 ·rintro j1 e1 Z1 m_1 hj1 hx1 hm
  rw [hB1] at hm
  refine qDs [] [] [(10, .bool (decide ((j1 : Int) < (d.aq.length:Int))))] ?_
  refine A.seq ?_
  refine qT (ltT hx1) ?_
  refine A.skip ?_
  show ah _ _ _ _ _
  refine A.seq ?_
  refine A.block ?_
  refine qD [(0, hix (ix aH (bf hx1))), (2, .al 82005)] [10] [(5, .ptr 82005 0)] [] [(82005, .cells 50 (k6 e1))] ?_
  obtain ⟨af, h1, hm⟩ := aa hm
  obtain ⟨ay, h2, hm⟩ := aa hm
  refine qD [(2, hro (SC.xK (r' := lf bk af) (σ3 := []) [500013500] (iI h1) (by kernel_rfl) (by kernel_rfl)) ajm), (5, hro (SC.xK (r' := lf aS ay) (σ3 := []) [500009700] (fD h2) (by kernel_rfl) (by kernel_rfl)) ahO)] [] [] [82005] [(82005, .cells 50 [i6 e1.ak, i6 e1.Seq, .bool e1.aX, lf bk af, lf aS ay])] ?_
  obtain ⟨l_1, h3, hm⟩ := aa hm
  refine qG [(4, hap 82525 (ap aH (bytes := 72) (by decide) h3))] [5] [] [82003, 708200300, 82005] [(82003, .cells 60 [.own 82525]), (82525, .slice 50 5 (ml aH l_1) 0 false)] ?_
  show ah _ _ _ _ _
  refine qGs [(0, hto (inc hx1 hb1))] [9] [(9, i6 ((j1 + 1 : Nat) : Int))] ?_
  exact Exists.intro l_1 (And.intro hm (bA.go [.sw 82525 708200300] [] (by kernel_rfl)))
 rintro j1 m_1 hj1 hl1 hm
 rw [hK1] at hm
 refine qDs [] [] [(10, .bool (decide ((j1 : Int) < (d.aq.length:Int))))] ?_
 refine A.seq ?_
 refine qF (ltF hl1) ?_
 refine A.exit ?_
 show ah _ _ _ _ _
 refine qD [] [3, 7, 8, 9, 10] [] [82002, 82003] [(82002, .cells 60 [.own 708200300])] ?_
 refine A.ret ?_
 obtain rfl := some_inj hm
 exact A.fin W0 [.fz [708200300]] rfl (by kernel_rfl)
theorem nP {f : aB} {r : aB} (hm : gL f = some r) : bM Tryz.prog 54 [] [.agg (k11 f)] (fun a σ' => a = .agg [.own 500005400, .own 500005401, .own 500005402] ∧ σ' = [(500005400, .slice 78 5 (ml az r.Links) 0 false), (500005401, .slice 81 5 (ml aO r.aC) 0 false), (500005402, .slice 62 3 (ml aN r.aA) 0 false)]) := by
 refine aT Tryz.func54 rfl rfl ?_
 unfold gL at hm
 refine qS [(0, .al 54001), (1, .al 54002)] [(1, .ptr 54001 0), (2, .ptr 54002 0)] [(54001, .cells 27 (k11 f)), (54002, .cells 27 [.aG, .aG, .aG])] ?_
 obtain ⟨af, h1, hm⟩ := aa hm
 refine qD [(2, hdc [500007100] (fV h1) ahL), (4, .al 54003)] [] [(3, .ptr 54003 0)] [] [(500007100, .slice 78 5 (ml az af) 0 false), (54003, .cells 27 [.own 500007100, .aG, .aG])] ?_
 refine A.seq ?_
 refine qDs [(2, hto (lnE aO f.aC))] [] [(13, lf aO f.aC), (14, i6 (f.aC.length:Int)), (15, i6 0)] ?_
 refine A.block ?_
 refine A.bS 13 rfl fun hb1 => ?_
 obtain ⟨B1, K1, hB1, hK1, hm⟩ := bt hm
 refine A.lpI (l := f.aC) (j0 := 0) (B := B1) (K := K1) hm (fun j1 => fun m_1 => [(1, .ptr 54001 0), (2, .ptr 54002 0), (3, .ptr 54003 0), (13, lf aO f.aC), (14, i6 (f.aC.length:Int)), (15, i6 (j1 : Int))]) (fun j1 => fun m_1 => [(54001, .cells 27 (k11 f)), (54002, .cells 27 [.aG, .aG, .aG]), (500007100, .slice 78 5 (ml az af) 0 false), (54003, .cells 27 [.own 500007100, .own 705400301, .aG]), (705400301, .slice 81 5 (ml aO m_1) 0 false)]) ?_ ?_ ?_
 ·exact bA.go [.ac 54003 705400301 81 5 1] [] (by kernel_rfl)
 ·rintro j1 e1 Z1 m_1 hj1 hx1 hm
  rw [hB1] at hm
  refine qDs [] [] [(16, .bool (decide ((j1 : Int) < (f.aC.length:Int))))] ?_
  refine A.seq ?_
  refine qT (ltT hx1) ?_
  refine A.skip ?_
  show ah _ _ _ _ _
  refine A.seq ?_
  refine A.block ?_
  refine qD [(0, hix (ix aO (bf hx1))), (2, .al 54005)] [16] [(5, .ptr 54005 0)] [] [(54005, .cells 81 (k8 e1))] ?_
  obtain ⟨ay, h2, hm⟩ := aa hm
  obtain ⟨aK, h3, hm⟩ := aa hm
  refine qD [(2, hro (SC.xK (r' := lf aS ay) (σ3 := []) [500009700] (fD h2) (by kernel_rfl) (by kernel_rfl)) ahO), (5, hro (jI h3) ahM)] [] [] [54005] [(54005, .cells 81 [i6 e1.ak, i6 e1.Seq, .bool e1.aX, lf aS ay, lf aH aK.aq])] ?_
  obtain ⟨l_1, h4, hm⟩ := aa hm
  refine qG [(4, hap 54531 (ap aO (bytes := 72) (by decide) h4))] [5] [] [54003, 705400301, 54005] [(54003, .cells 27 [.own 500007100, .own 54531, .aG]), (54531, .slice 81 5 (ml aO l_1) 0 false)] ?_
  show ah _ _ _ _ _
  refine qGs [(0, hto (inc hx1 hb1))] [15] [(15, i6 ((j1 + 1 : Nat) : Int))] ?_
  exact Exists.intro l_1 (And.intro hm (bA.go [.sw 54531 705400301] [] (by kernel_rfl)))
 rintro j1 m_1 hj1 hl1 hm
 rw [hK1] at hm
 refine qDs [] [] [(16, .bool (decide ((j1 : Int) < (f.aC.length:Int))))] ?_
 refine A.seq ?_
 refine qF (ltF hl1) ?_
 refine A.exit ?_
 show ah _ _ _ _ _
 refine A.seq ?_
 refine qD [(2, hto (lnE aN f.aA))] [1, 13, 14, 15, 16] [(35, lf aN f.aA), (36, i6 (f.aA.length:Int)), (37, i6 0)] [54001] [] ?_
 refine A.block ?_
 refine A.bS 35 rfl fun hb2 => ?_
 obtain ⟨B2, K2, hB2, hK2, hm⟩ := bt hm
 refine A.lpI (l := f.aA) (j0 := 0) (B := B2) (K := K2) hm (fun j2 => fun m_2 => [(2, .ptr 54002 0), (3, .ptr 54003 0), (35, lf aN f.aA), (36, i6 (f.aA.length:Int)), (37, i6 (j2 : Int))]) (fun j2 => fun m_2 => [(54002, .cells 27 [.aG, .aG, .aG]), (500007100, .slice 78 5 (ml az af) 0 false), (54003, .cells 27 [.own 500007100, .own 705400301, .own 705400302]), (705400301, .slice 81 5 (ml aO m_1) 0 false), (705400302, .slice 62 3 (ml aN m_2) 0 false)]) ?_ ?_ ?_
 ·exact bA.go [.ac 54003 705400302 62 3 2] [] (by kernel_rfl)
 ·rintro j2 e2 Z2 m_2 hj2 hx2 hm
  rw [hB2] at hm
  refine qDs [] [] [(38, .bool (decide ((j2 : Int) < (f.aA.length:Int))))] ?_
  refine A.seq ?_
  refine qT (ltT hx2) ?_
  refine A.skip ?_
  show ah _ _ _ _ _
  refine A.seq ?_
  refine A.block ?_
  refine qD [(0, hix (ix aN (bf hx2))), (2, .al 54007)] [38] [(7, .ptr 54007 0)] [] [(54007, .cells 62 (k9 e2))] ?_
  obtain ⟨bh, h5, hm⟩ := aa hm
  refine qD [(2, hro (jI h5) ahM)] [] [] [54007] [(54007, .cells 62 [i6 e2.gW, i6 e2.To, lf aH bh.aq])] ?_
  obtain ⟨l_2, h6, hm⟩ := aa hm
  refine qG [(4, hap 54549 (ap aN (bytes := 40) (by decide) h6))] [7] [] [54003, 705400302, 54007] [(54003, .cells 27 [.own 500007100, .own 705400301, .own 54549]), (54549, .slice 62 3 (ml aN l_2) 0 false)] ?_
  show ah _ _ _ _ _
  refine qGs [(0, hto (inc hx2 hb2))] [37] [(37, i6 ((j2 + 1 : Nat) : Int))] ?_
  exact Exists.intro l_2 (And.intro hm (bA.go [.sw 54549 705400302] [] (by kernel_rfl)))
 rintro j2 m_2 hj2 hl2 hm
 rw [hK2] at hm
 refine qDs [] [] [(38, .bool (decide ((j2 : Int) < (f.aA.length:Int))))] ?_
 refine A.seq ?_
 refine qF (ltF hl2) ?_
 refine A.exit ?_
 show ah _ _ _ _ _
 refine qD [] [3, 35, 36, 37, 38] [] [54002, 54003] [(54002, .cells 27 [.own 500007100, .own 705400301, .own 705400302])] ?_
 refine A.ret ?_
 obtain rfl := some_inj hm
 exact A.fin W0 [.sw 500007100 500005400, .sw 705400301 500005401, .sw 705400302 500005402] rfl (by kernel_rfl)
theorem vp {f : aB} {r : Bool} (hm : oq f = some r) : RO Tryz.prog 19 [] [.agg (k11 f)] (.bool r) := by
 refine aT Tryz.func19 rfl rfl ?_
 unfold oq at hm
 refine qS [(0, .al 19001)] [(1, .ptr 19001 0)] [(19001, .cells 27 (k11 f))] ?_
 refine A.seq ?_
 obtain ⟨J1, hJ1, hm⟩ := bJ hm
 refine A.J (J := J1) (r := r) (fun v_1 => [(1, .ptr 19001 0), (20, .bool v_1)]) (fun v_1 => [(19001, .cells 27 (k11 f))]) ?_ ?_
 ·obtain ⟨af, h1, hm⟩ := aa hm
  rcases ai hm with ⟨c1,hm⟩|⟨c1,hm⟩
  ·refine qGs [(1, hro (gD h1) aau), (3, hto (bE c1))] [] [(20, .bool true)] ?_
   exact qX true hm
  refine qGs [(1, hro (gD h1) aau), (3, hto (bE c1)), (6, hto (lnE aN f.aA))] [] [(20, .bool (decide ((0:Int) < (f.aA.length:Int))))] ?_
  exact qX (decide ((0:Int) < (f.aA.length:Int))) hm
 rintro v_1 hm
 rw [hJ1] at hm
 rcases ai hm with ⟨c2,hm⟩|⟨c2,hm⟩
 ·refine qT c2 ?_
  refine qS [] [(2, .bool false)] [] ?_
  cases hm
  exact A.ret qE
 refine qF c2 ?_
 refine A.skip ?_
 show ah _ _ _ _ _
 obtain ⟨ay, h2, hm⟩ := aa hm
 refine qD [(1, hdc [500002200, 500002201] (fA h2) aav), (2, .al 19003)] [20] [(3, .ptr 19003 0)] [] [(500002200, .slice 87 2 (ml aU ay.aI) 0 false), (500002201, .slice 78 5 (ml az ay.Links) 0 false), (19003, .cells 44 [.own 500002200, .own 500002201])] ?_
 refine A.seq ?_
 refine qDs [(2, hto (lnE aO f.aC))] [] [(24, lf aO f.aC), (25, i6 (f.aC.length:Int)), (26, i6 0)] ?_
 refine A.block ?_
 refine A.bS 24 rfl fun hb1 => ?_
 obtain ⟨B1, K1, hB1, hK1, hm⟩ := bt hm
 refine A.lpI (l := f.aC) (j0 := 0) (B := B1) (K := K1) hm (fun j1 => fun sg => match sg with | () => [(1, .ptr 19001 0), (3, .ptr 19003 0), (24, lf aO f.aC), (25, i6 (f.aC.length:Int)), (26, i6 (j1 : Int))]) (fun j1 => fun sg => match sg with | () => [(19001, .cells 27 (k11 f)), (500002200, .slice 87 2 (ml aU ay.aI) 0 false), (500002201, .slice 78 5 (ml az ay.Links) 0 false), (19003, .cells 44 [.own 500002200, .own 500002201])]) ?_ ?_ ?_
 ·exact qW
 ·rintro j1 e1 Z1 ⟨⟩ hj1 hx1 hm
  rw [hB1] at hm
  refine qDs [] [] [(27, .bool (decide ((j1 : Int) < (f.aC.length:Int))))] ?_
  refine A.seq ?_
  refine qT (ltT hx1) ?_
  refine A.skip ?_
  show ah _ _ _ _ _
  refine A.seq ?_
  refine A.block ?_
  refine qD [(1, hix (ix aO (bf hx1))), (3, .al 19005)] [27] [(5, .ptr 19005 0), (4, i6 (j1 : Int))] [] [(19005, .cells 81 (k8 e1))] ?_
  obtain ⟨aK, h3, hm⟩ := aa hm
  refine qD [(2, hdc [510019001, 510019002] (SC.at [(500006400, 510019001), (500006401, 510019002)] (oN h3)) ahK), (6, .al 19006)] [] [(6, .ptr 19006 0), (7, .bool aK.2)] [] [(510019001, .slice 106 3 (ml bk aK.1.Links) 0 false), (510019002, .slice 85 3 (ml aS aK.1.Claims) 0 false), (19006, .cells 50 [i6 aK.1.ak, i6 aK.1.Seq, .bool aK.1.aX, .own 510019001, .own 510019002])] ?_
  obtain ⟨bh, h4, hm⟩ := aa hm
  refine qD [(4, hro (si h4) apq), (8, .al 19008)] [] [(8, .ptr 19008 0), (9, .bool bh.2)] [] [(19008, .cells 50 (k6 bh.1))] ?_
  refine A.seq ?_
  obtain ⟨J2, hJ2, hm⟩ := bJ hm
  refine A.J (J := J2) (r := r) (fun v_2 => [(1, .ptr 19001 0), (3, .ptr 19003 0), (4, i6 (j1 : Int)), (5, .ptr 19005 0), (24, lf aO f.aC), (25, i6 (f.aC.length:Int)), (26, i6 (j1 : Int)), (56, .bool v_2)]) (fun v_2 => [(19001, .cells 27 (k11 f)), (500002200, .slice 87 2 (ml aU ay.aI) 0 false), (500002201, .slice 78 5 (ml az ay.Links) 0 false), (19003, .cells 44 [.own 500002200, .own 500002201]), (19005, .cells 81 (k8 e1))]) ?_ ?_
  ·rcases ai hm with ⟨c3,hm⟩|⟨c3,hm⟩
   ·refine qG [(2, hto (bE c3))] [6, 7, 8, 9] [(56, .bool true)] [510019001, 510019002, 19006, 19008] [] ?_
    exact qX true hm
   rcases ai hm with ⟨c4,hm⟩|⟨c4,hm⟩
   ·refine qG [(2, hto (bE c3)), (6, hto (bE c4))] [6, 7, 8, 9] [(56, .bool true)] [510019001, 510019002, 19006, 19008] [] ?_
    exact qX true hm
   obtain ⟨bI, h5, hm⟩ := aa hm
   refine qG [(2, hto (bE c3)), (6, hto (bE c4)), (9, hle [510019001, 510019002] (mW h5) aeb)] [6, 7, 8, 9] [(56, .bool (!bI))] [510019001, 510019002, 19006, 19008] [] ?_
   exact qX (!bI) hm
  rintro v_2 hm
  rw [hJ2] at hm
  rcases ai hm with ⟨c5,hm⟩|⟨c5,hm⟩
  ·refine qT c5 ?_
   refine qS [] [(2, .bool false)] [] ?_
   cases hm
   exact A.ret qE
  refine qF c5 ?_
  refine A.skip ?_
  show ah _ _ _ _ _
  obtain ⟨l_1, h6, hm⟩ := aa hm
  refine qDs [(3, hsl (sl aO h6)), (4, hto (lnE aO l_1))] [4, 56] [(60, lf aO l_1), (61, i6 (l_1.length:Int)), (62, i6 0)] ?_
  refine A.block ?_
  refine A.bS 60 rfl fun hb2 => ?_
  obtain ⟨B2, K2, hB2, hK2, hm⟩ := bt hm
  refine A.lpI (l := l_1) (j0 := 0) (B := B2) (K := K2) hm (fun j2 => fun sg => match sg with | () => [(1, .ptr 19001 0), (3, .ptr 19003 0), (5, .ptr 19005 0), (24, lf aO f.aC), (25, i6 (f.aC.length:Int)), (26, i6 (j1 : Int)), (60, lf aO l_1), (61, i6 (l_1.length:Int)), (62, i6 (j2 : Int))]) (fun j2 => fun sg => match sg with | () => [(19001, .cells 27 (k11 f)), (500002200, .slice 87 2 (ml aU ay.aI) 0 false), (500002201, .slice 78 5 (ml az ay.Links) 0 false), (19003, .cells 44 [.own 500002200, .own 500002201]), (19005, .cells 81 (k8 e1))]) ?_ ?_ ?_
  ·exact qW
  ·rintro j2 e2 Z2 ⟨⟩ hj2 hx2 hm
   rw [hB2] at hm
   refine qDs [] [] [(63, .bool (decide ((j2 : Int) < (l_1.length:Int))))] ?_
   refine A.seq ?_
   refine qT (ltT hx2) ?_
   refine A.skip ?_
   show ah _ _ _ _ _
   refine A.seq ?_
   refine A.block ?_
   refine qD [(0, hix (ix aO (bf hx2))), (2, .al 19011)] [63] [(11, .ptr 19011 0)] [] [(19011, .cells 81 (k8 e2))] ?_
   obtain ⟨J3, hJ3, hm⟩ := bJ hm
   refine A.J (J := J3) (r := r) (fun v_3 => [(1, .ptr 19001 0), (3, .ptr 19003 0), (5, .ptr 19005 0), (24, lf aO f.aC), (25, i6 (f.aC.length:Int)), (26, i6 (j1 : Int)), (60, lf aO l_1), (61, i6 (l_1.length:Int)), (62, i6 (j2 : Int)), (79, .bool v_3)]) (fun v_3 => [(19001, .cells 27 (k11 f)), (500002200, .slice 87 2 (ml aU ay.aI) 0 false), (500002201, .slice 78 5 (ml az ay.Links) 0 false), (19003, .cells 44 [.own 500002200, .own 500002201]), (19005, .cells 81 (k8 e1))]) ?_ ?_
   ·obtain ⟨bV, h7, hm⟩ := aa hm
    rcases ai hm with ⟨c6,hm⟩|⟨c6,hm⟩
    ·obtain ⟨cD, h8, hm⟩ := aa hm
     refine qG [(5, hle [500002200, 500002201] (oH h7) apr), (6, hto (bE c6)), (11, hro (xd h8) ck68)] [11] [(79, .bool (!cD))] [19011] [] ?_
     exact qX (!cD) hm
    refine qG [(5, hle [500002200, 500002201] (oH h7) apr), (6, hto (bE c6))] [11] [(79, .bool false)] [19011] [] ?_
    exact qX false hm
   rintro v_3 hm
   rw [hJ3] at hm
   rcases ai hm with ⟨c7,hm⟩|⟨c7,hm⟩
   ·refine qT c7 ?_
    refine qS [] [(2, .bool false)] [] ?_
    cases hm
    exact A.ret qE
   refine qF c7 ?_
   refine A.skip ?_
   show ah _ _ _ _ _
   refine qGs [(0, hto (inc hx2 hb2))] [62, 79] [(62, i6 ((j2 + 1 : Nat) : Int))] ?_
   exact qX () hm
  rintro j2 ⟨⟩ hj2 hl2 hm
  rw [hK2] at hm
  refine qDs [] [] [(63, .bool (decide ((j2 : Int) < (l_1.length:Int))))] ?_
  refine A.seq ?_
  refine qF (ltF hl2) ?_
  refine A.exit ?_
  show ah _ _ _ _ _
  refine qG [(0, hto (inc hx1 hb1))] [5, 26, 60, 61, 62, 63] [(26, i6 ((j1 + 1 : Nat) : Int))] [19005] [] ?_
  exact qX () hm
 rintro j1 ⟨⟩ hj1 hl1 hm
 rw [hK1] at hm
 refine qDs [] [] [(27, .bool (decide ((j1 : Int) < (f.aC.length:Int))))] ?_
 refine A.seq ?_
 refine qF (ltF hl1) ?_
 refine A.exit ?_
 show ah _ _ _ _ _
 refine qS [] [(2, .bool true)] [] ?_
 cases hm
 exact A.ret qE
end Go.Proofs.YtpmifmdidfgpdaaGreat
