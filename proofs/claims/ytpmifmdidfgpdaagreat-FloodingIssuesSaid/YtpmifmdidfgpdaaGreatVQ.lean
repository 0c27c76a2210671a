/- The eR of cw of the program. No condition but bT bF stand in each. -/
import Derived.Test.YtpmifmdidfgpdaaGreatDA
import Derived.Test.YtpmifmdidfgpdaaGreatVX
import Derived.Test.YtpmifmdidfgpdaaGreatVO
namespace Go.Proofs.YtpmifmdidfgpdaaGreat
open Go
set_option maxRecDepth 100000
set_option linter.all false
theorem dO {f : aA} {r : aB} (hm : ef f = some r) : RO Tryz.prog 23 [] [.agg (k11 f)] (.agg (k2 r)) := by
 refine aQ Tryz.func23 rfl rfl ?_
 unfold ef at hm
 refine qS [(0, .al 23001), (1, .al 23002)] [(1, .ptr 23001 0), (2, .ptr 23002 0)] [(23001, .cells 27 (k11 f)), (23002, .cells 44 [.aD, .aD])] ?_
 refine qD [(3, .al 23003)] [] [(3, .ptr 23003 0)] [] [(23003, .cells 44 [.aD, lf az f.Links])] ?_
 refine A.seq ?_
 refine qDs [] [] [(4, i6 0)] ?_
 refine A.block ?_
 refine A.bC 1 1 rfl rfl rfl fun hb1 => ?_
 obtain ⟨B1, K1, hB1, hK1, hm⟩ := bq hm
 refine A.lpI (l := f.aG) (j0 := 0) (B := B1) (K := K1) hm (fun j1 => fun m_1 => [(1, .ptr 23001 0), (2, .ptr 23002 0), (3, .ptr 23003 0), (4, i6 (j1 : Int))]) (fun j1 => fun m_1 => [(23001, .cells 27 (k11 f)), (23002, .cells 44 [.aD, .aD]), (23003, .cells 44 [.own 702300300, lf az f.Links]), (702300300, .slice 87 2 (ml aS m_1) 0 false)]) ?_ ?_ ?_
 ·exact bz.go [.ac 23003 702300300 87 2 0] [] (by kernel_rfl)
 ·rintro j1 e1 Z1 m_1 hj1 hx1 hm
  rw [hB1] at hm
  refine A.seq ?_
  refine qDs [(3, hto (lnE aL f.aG))] [] [(12, .bool (decide ((j1 : Int) < (f.aG.length:Int))))] ?_
  refine qT (ltT hx1) ?_
  refine A.skip ?_
  show ai _ _ _ _ _
  refine A.seq ?_
  refine A.block ?_
  obtain ⟨l_1, h1, hm⟩ := aa hm
  refine qG [(5, hix (ix aL (aV hx1))), (11, hix (ix aL (aV hx1))), (16, hap 23531 (ap aS (bytes := 16) (by decide) h1))] [12] [] [23003, 702300300] [(23003, .cells 44 [.own 23531, lf az f.Links]), (23531, .slice 87 2 (ml aS l_1) 0 false)] ?_
  show ai _ _ _ _ _
  refine qGs [(1, hto (inc hx1 hb1))] [4] [(4, i6 ((j1 + 1 : Nat) : Int))] ?_
  exact Exists.intro l_1 (And.intro hm (bz.go [.sw 23531 702300300] [] (by kernel_rfl)))
 rintro j1 m_1 hj1 hl1 hm
 rw [hK1] at hm
 refine A.seq ?_
 refine qDs [(3, hto (lnE aL f.aG))] [] [(12, .bool (decide ((j1 : Int) < (f.aG.length:Int))))] ?_
 refine qF (ltF hl1) ?_
 refine A.exit ?_
 show ai _ _ _ _ _
 refine qD [] [1, 3, 4, 12] [] [23001, 23002, 23003] [(23002, .cells 44 [.own 702300300, lf az f.Links])] ?_
 refine A.ret ?_
 obtain rfl := some_inj hm
 exact A.fin W0 [.fz [702300300]] rfl (by kernel_rfl)
theorem ei {f : aA} {aC : Int} {r : Int} (hm : gw f aC = some r) : RO Tryz.prog 72 [] [.agg (k11 f), i6 aC] (i6 r) := by
 refine aQ Tryz.func72 rfl rfl ?_
 unfold gw at hm
 refine qS [(0, .al 72002)] [(1, i6 aC), (2, .ptr 72002 0)] [(72002, .cells 27 (k11 f))] ?_
 refine A.seq ?_
 refine qDs [] [] [(5, i6 0)] ?_
 refine A.block ?_
 refine A.bC 2 1 rfl rfl rfl fun hb1 => ?_
 obtain ⟨B1, K1, hB1, hK1, hm⟩ := bq hm
 refine A.lpI (l := f.aG) (j0 := 0) (B := B1) (K := K1) hm (fun j1 => fun sg => match sg with | () => [(1, i6 aC), (2, .ptr 72002 0), (5, i6 (j1 : Int))]) (fun j1 => fun sg => match sg with | () => [(72002, .cells 27 (k11 f))]) ?_ ?_ ?_
 ·exact qW
 ·rintro j1 e1 Z1 ⟨⟩ hj1 hx1 hm
  rw [hB1] at hm
  refine A.seq ?_
  refine qDs [(3, hto (lnE aL f.aG))] [] [(10, .bool (decide ((j1 : Int) < (f.aG.length:Int))))] ?_
  refine qT (ltT hx1) ?_
  refine A.skip ?_
  show ai _ _ _ _ _
  refine A.seq ?_
  refine A.block ?_
  refine qDs [(3, hix (ix aL (aV hx1)))] [10] [(20, .bool (decide (e1.aj = aC)))] ?_
  rcases ah hm with ⟨c1,hm⟩|⟨c1,hm⟩
  ·refine qT c1 ?_
   refine qS [] [(4, i6 (j1 : Int))] [] ?_
   cases hm
   exact A.ret qE
  refine qF c1 ?_
  refine A.skip ?_
  show ai _ _ _ _ _
  refine qGs [(1, hto (inc hx1 hb1))] [5, 20] [(5, i6 ((j1 + 1 : Nat) : Int))] ?_
  exact qX () hm
 rintro j1 ⟨⟩ hj1 hl1 hm
 rw [hK1] at hm
 refine A.seq ?_
 refine qDs [(3, hto (lnE aL f.aG))] [] [(10, .bool (decide ((j1 : Int) < (f.aG.length:Int))))] ?_
 refine qF (ltF hl1) ?_
 refine A.exit ?_
 show ai _ _ _ _ _
 refine qS [] [(4, i6 (-1))] [] ?_
 cases hm
 exact A.ret qE
theorem fD {f : aA} {r : Bool} (hm : gx f = some r) : RO Tryz.prog 57 [] [.agg (k11 f)] (.bool r) := by
 refine aQ Tryz.func57 rfl rfl ?_
 unfold gx at hm
 refine qS [(0, .al 57001)] [(1, .ptr 57001 0)] [(57001, .cells 27 (k11 f))] ?_
 refine A.seq ?_
 obtain ⟨J1, hJ1, hm⟩ := bB hm
 refine A.J (J := J1) (r := r) (fun v_1 => [(1, .ptr 57001 0), (16, .bool v_1)]) (fun v_1 => [(57001, .cells 27 (k11 f))]) ?_ ?_
 ·obtain ⟨af, h1, hm⟩ := aa hm
  obtain ⟨aq, h2, hm⟩ := aa hm
  rcases ah hm with ⟨c1,hm⟩|⟨c1,hm⟩
  ·refine qGs [(1, hro (dO h1) vq), (2, hro (jk h2) abj), (4, hto (bE c1))] [] [(16, .bool true)] ?_
   exact qX true hm
  refine qGs [(1, hro (dO h1) vq), (2, hro (jk h2) abj), (4, hto (bE c1)), (7, hto (lnE aN f.aF))] [] [(16, .bool (decide ((400:Int) < (f.aF.length:Int))))] ?_
  exact qX (decide ((400:Int) < (f.aF.length:Int))) hm
 rintro v_1 hm
 rw [hJ1] at hm
 rcases ah hm with ⟨c2,hm⟩|⟨c2,hm⟩
 ·refine qT c2 ?_
  refine qS [] [(2, .bool false)] [] ?_
  cases hm
  exact A.ret qE
 refine qF c2 ?_
 refine A.skip ?_
 show ai _ _ _ _ _
 refine A.seq ?_
 refine qDs [] [16] [(3, i6 0)] ?_
 refine A.block ?_
 refine A.bC 1 1 rfl rfl rfl fun hb1 => ?_
 obtain ⟨B1, K1, hB1, hK1, hm⟩ := bq hm
 refine A.lpI (l := f.aG) (j0 := 0) (B := B1) (K := K1) hm (fun j1 => fun sg => match sg with | () => [(1, .ptr 57001 0), (3, i6 (j1 : Int))]) (fun j1 => fun sg => match sg with | () => [(57001, .cells 27 (k11 f))]) ?_ ?_ ?_
 ·exact qW
 ·rintro j1 e1 Z1 ⟨⟩ hj1 hx1 hm
  rw [hB1] at hm
  refine A.seq ?_
  refine qDs [(3, hto (lnE aL f.aG))] [] [(21, .bool (decide ((j1 : Int) < (f.aG.length:Int))))] ?_
  refine qT (ltT hx1) ?_
  refine A.skip ?_
  show ai _ _ _ _ _
  refine A.seq ?_
  refine A.block ?_
  refine qD [(3, hix (ix aL (aV hx1))), (5, .al 57004)] [21] [(4, .ptr 57004 0)] [] [(57004, .cells 81 (k8 e1))] ?_
  obtain ⟨J2, hJ2, hm⟩ := bB hm
  refine A.J (J := J2) (r := r) (fun v_2 => [(1, .ptr 57001 0), (3, i6 (j1 : Int)), (48, .bool v_2)]) (fun v_2 => [(57001, .cells 27 (k11 f))]) ?_ ?_
  ·rcases ah hm with ⟨c3,hm⟩|⟨c3,hm⟩
   ·refine qG [(3, hto (bE c3))] [4] [(48, .bool true)] [57004] [] ?_
    exact qX true hm
   rcases ah hm with ⟨c4,hm⟩|⟨c4,hm⟩
   ·refine qG [(3, hto (bE c3)), (8, hto (bE c4))] [4] [(48, .bool true)] [57004] [] ?_
    exact qX true hm
   obtain ⟨aI, h3, hm⟩ := aa hm
   rcases ah hm with ⟨c5,hm⟩|⟨c5,hm⟩
   ·refine qG [(3, hto (bE c3)), (8, hto (bE c4)), (11, hro (mw h3) ai1), (14, hto (bE c5))] [4] [(48, .bool true)] [57004] [] ?_
    exact qX true hm
   obtain ⟨bk, h4, hm⟩ := aa hm
   refine qG [(3, hto (bE c3)), (8, hto (bE c4)), (11, hro (mw h3) ai1), (14, hto (bE c5)), (17, hro (nM h4) ae9)] [4] [(48, .bool (!decide (bk = (0:Int))))] [57004] [] ?_
   exact qX (!decide (bk = (0:Int))) hm
  rintro v_2 hm
  rw [hJ2] at hm
  rcases ah hm with ⟨c6,hm⟩|⟨c6,hm⟩
  ·refine qT c6 ?_
   refine qS [] [(2, .bool false)] [] ?_
   cases hm
   exact A.ret qE
  refine qF c6 ?_
  refine A.skip ?_
  show ai _ _ _ _ _
  refine qGs [(1, hto (inc hx1 hb1))] [3, 48] [(3, i6 ((j1 + 1 : Nat) : Int))] ?_
  exact qX () hm
 rintro j1 ⟨⟩ hj1 hl1 hm
 rw [hK1] at hm
 refine A.seq ?_
 refine qDs [(3, hto (lnE aL f.aG))] [] [(21, .bool (decide ((j1 : Int) < (f.aG.length:Int))))] ?_
 refine qF (ltF hl1) ?_
 refine A.exit ?_
 show ai _ _ _ _ _
 refine A.seq ?_
 refine qDs [] [3, 21] [(5, i6 0)] ?_
 refine A.block ?_
 refine A.bC 1 2 rfl rfl rfl fun hb2 => ?_
 obtain ⟨B2, K2, hB2, hK2, hm⟩ := bq hm
 refine A.lpI (l := f.aF) (j0 := 0) (B := B2) (K := K2) hm (fun j2 => fun sg => match sg with | () => [(1, .ptr 57001 0), (5, i6 (j2 : Int))]) (fun j2 => fun sg => match sg with | () => [(57001, .cells 27 (k11 f))]) ?_ ?_ ?_
 ·exact qW
 ·rintro j2 e2 Z2 ⟨⟩ hj2 hx2 hm
  rw [hB2] at hm
  refine A.seq ?_
  refine qDs [(3, hto (lnE aN f.aF))] [] [(53, .bool (decide ((j2 : Int) < (f.aF.length:Int))))] ?_
  refine qT (ltT hx2) ?_
  refine A.skip ?_
  show ai _ _ _ _ _
  refine A.seq ?_
  refine A.block ?_
  refine qD [(3, hix (ix aN (aV hx2))), (5, .al 57006)] [53] [(6, .ptr 57006 0)] [] [(57006, .cells 62 (k9 e2))] ?_
  obtain ⟨J3, hJ3, hm⟩ := bB hm
  refine A.J (J := J3) (r := r) (fun v_3 => [(1, .ptr 57001 0), (5, i6 (j2 : Int)), (85, .bool v_3)]) (fun v_3 => [(57001, .cells 27 (k11 f))]) ?_ ?_
  ·obtain ⟨bG, h5, hm⟩ := aa hm
   rcases ah hm with ⟨c7,hm⟩|⟨c7,hm⟩
   ·refine qG [(3, hro (ei h5) uy), (5, hto (bE c7))] [6] [(85, .bool true)] [57006] [] ?_
    exact qX true hm
   obtain ⟨b9, h6, hm⟩ := aa hm
   rcases ah hm with ⟨c8,hm⟩|⟨c8,hm⟩
   ·refine qG [(3, hro (ei h5) uy), (5, hto (bE c7)), (9, hro (ei h6) uy), (12, hto (bE c8))] [6] [(85, .bool true)] [57006] [] ?_
    exact qX true hm
   rcases ah hm with ⟨c9,hm⟩|⟨c9,hm⟩
   ·refine qG [(3, hro (ei h5) uy), (5, hto (bE c7)), (9, hro (ei h6) uy), (12, hto (bE c8)), (19, hto (bE c9))] [6] [(85, .bool true)] [57006] [] ?_
    exact qX true hm
   obtain ⟨ct, h7, hm⟩ := aa hm
   refine qG [(3, hro (ei h5) uy), (5, hto (bE c7)), (9, hro (ei h6) uy), (12, hto (bE c8)), (19, hto (bE c9)), (22, hro (nM h7) ae9)] [6] [(85, .bool (!decide (ct = (0:Int))))] [57006] [] ?_
   exact qX (!decide (ct = (0:Int))) hm
  rintro v_3 hm
  rw [hJ3] at hm
  rcases ah hm with ⟨c10,hm⟩|⟨c10,hm⟩
  ·refine qT c10 ?_
   refine qS [] [(2, .bool false)] [] ?_
   cases hm
   exact A.ret qE
  refine qF c10 ?_
  refine A.skip ?_
  show ai _ _ _ _ _
  refine qGs [(1, hto (inc hx2 hb2))] [5, 85] [(5, i6 ((j2 + 1 : Nat) : Int))] ?_
  exact qX () hm
 rintro j2 ⟨⟩ hj2 hl2 hm
 rw [hK2] at hm
 refine A.seq ?_
 refine qDs [(3, hto (lnE aN f.aF))] [] [(53, .bool (decide ((j2 : Int) < (f.aF.length:Int))))] ?_
 refine qF (ltF hl2) ?_
 refine A.exit ?_
 show ai _ _ _ _ _
 refine qS [] [(2, .bool true)] [] ?_
 cases hm
 exact A.ret qE
theorem qg {f : aA} {r : Int} (hm : n9 f = some r) : RO Tryz.prog 18 [] [.agg (k11 f)] (i6 r) := by
 refine aQ Tryz.func18 rfl rfl ?_
 unfold n9 at hm
 refine qS [(0, .al 18001)] [(1, .ptr 18001 0)] [(18001, .cells 27 (k11 f))] ?_
 refine A.seq ?_
 obtain ⟨af, h1, hm⟩ := aa hm
 refine qS [(1, hro (fD h1) wJ)] [(5, .bool (!af))] [] ?_
 rcases ah hm with ⟨c1,hm⟩|⟨c1,hm⟩
 ·refine qT c1 ?_
  refine qS [] [(2, i6 1)] [] ?_
  cases hm
  exact A.ret qE
 refine qF c1 ?_
 refine A.skip ?_
 show ai _ _ _ _ _
 refine qS [] [(2, i6 0)] [] ?_
 cases hm
 exact A.ret qE
theorem vX {f : aA} {i : Int} {seq : Int} {r : ak × Bool} (hm : oq f i seq = some r) : RO Tryz.prog 73 [] [.agg (k11 f), i6 i, i6 seq] (.tup [.agg (k6 r.1), .bool r.2]) := by
 refine aQ Tryz.func73 rfl rfl ?_
 unfold oq at hm
 refine qS [(0, .al 73003), (1, .al 73006)] [(1, i6 i), (2, i6 seq), (3, .ptr 73003 0), (6, .ptr 73006 0)] [(73003, .cells 27 (k11 f)), (73006, .cells 50 [i6 0, i6 0, .bool false, .aD, .aD])] ?_
 obtain ⟨af, h1, hm⟩ := aa hm
 obtain ⟨e_1, h2, hm⟩ := aa hm
 obtain ⟨aq, h3, hm⟩ := aa hm
 refine qD [(1, hro (dO h1) vq), (5, hix (ix aL h2)), (12, hix (ix aL h2)), (15, hro (acg h3) aup), (19, .al 73008)] [1, 2, 3] [(8, .ptr 73008 0), (9, i6 aq.2)] [73003] [(73008, .cells 50 (k6 aq.1))] ?_
 refine qS [] [(6, .ptr 73006 0), (7, .bool (decide (aq.2 = (0:Int))))] [(73006, .cells 50 (k6 aq.1))] ?_
 cases hm
 exact A.ret qE
theorem vY {f : aA} {aC : Int} {r : ak × Bool} (hm : ot f aC = some r) : RO Tryz.prog 26 [] [.agg (k11 f), i6 aC] (.tup [.agg (k6 r.1), .bool r.2]) := by
 refine aQ Tryz.func26 rfl rfl ?_
 unfold ot at hm
 refine qS [(0, .al 26002), (1, .al 26004)] [(1, i6 aC), (2, .ptr 26002 0), (4, .ptr 26004 0)] [(26002, .cells 27 (k11 f)), (26004, .cells 50 [i6 0, i6 0, .bool false, .aD, .aD])] ?_
 obtain ⟨af, h1, hm⟩ := aa hm
 refine qDs [(2, hro (ei h1) uy)] [1] [(6, i6 af)] ?_
 refine A.seq ?_
 obtain ⟨J1, hJ1, hm⟩ := bB hm
 refine A.J (J := J1) (r := r) (fun v_1 => [(2, .ptr 26002 0), (4, .ptr 26004 0), (6, i6 af), (25, .bool v_1)]) (fun v_1 => [(26002, .cells 27 (k11 f)), (26004, .cells 50 [i6 0, i6 0, .bool false, .aD, .aD])]) ?_ ?_
 ·obtain ⟨aq, h2, hm⟩ := aa hm
  rcases ah hm with ⟨c1,hm⟩|⟨c1,hm⟩
  ·refine qGs [(1, hro (fD h2) wJ), (3, hto (bE c1))] [] [(25, .bool true)] ?_
   exact qX true hm
  rcases ah hm with ⟨c2,hm⟩|⟨c2,hm⟩
  ·refine qGs [(1, hro (fD h2) wJ), (3, hto (bE c1)), (7, hto (bE c2))] [] [(25, .bool true)] ?_
   exact qX true hm
  obtain ⟨e_1, h3, hm⟩ := aa hm
  refine qGs [(1, hro (fD h2) wJ), (3, hto (bE c1)), (7, hto (bE c2)), (11, hix (ix aL h3))] [] [(25, .bool (decide (e_1.Seq = (0:Int))))] ?_
  exact qX (decide (e_1.Seq = (0:Int))) hm
 rintro v_1 hm
 rw [hJ1] at hm
 rcases ah hm with ⟨c3,hm⟩|⟨c3,hm⟩
 ·refine qT c3 ?_
  refine qD [] [2, 6, 25] [(5, .bool false)] [26002] [] ?_
  cases hm
  exact A.ret qE
 refine qF c3 ?_
 refine A.skip ?_
 show ai _ _ _ _ _
 obtain ⟨e_2, h4, hm⟩ := aa hm
 obtain ⟨aI, h5, hm⟩ := aa hm
 refine qS [(5, hix (ix aL h4)), (8, hro (vX h5) aqk)] [(4, .ptr 26004 0), (5, .bool aI.2)] [(26004, .cells 50 (k6 aI.1))] ?_
 cases hm
 exact A.ret qE
theorem vf {f : aA} {i : Int} {n : aU} {r : aA} (hm : nk f i n = some r) : RO Tryz.prog 77 [] [.agg (k11 f), i6 i, .agg (k8 n)] (.agg (k11 r)) := by
 refine aQ Tryz.func77 rfl rfl ?_
 unfold nk at hm
 refine qS [(0, .al 77003), (1, .al 77005), (2, .al 77006)] [(1, i6 i), (3, .ptr 77003 0), (5, .ptr 77005 0), (6, .ptr 77006 0)] [(77003, .cells 27 (k11 f)), (77005, .cells 81 (k8 n)), (77006, .cells 27 [.aD, .aD, .aD])] ?_
 refine qDs [] [] [(7, .aD)] ?_
 obtain ⟨l_1, h1, hm⟩ := aa hm
 refine qD [(3, hap 77511 (ap aL (bytes := 72) (by decide) h1))] [7] [(7, .own 77511)] [] [(77511, .slice 81 5 (ml aL l_1) 0 false)] ?_
 obtain ⟨e_1, h2, hm⟩ := aa hm
 obtain ⟨l_2, h3, hm⟩ := aa hm
 refine qD [(3, hix (ix aL h2)), (4, hso 77511 (st aL (off := 0) (ca := (k8 n)) h2 h3 rfl) (gZ h2).1.1)] [1, 5] [] [77005, 77511] [(77511, .slice 81 5 (ml aL l_2) 0 false)] ?_
 refine qD [] [7] [] [77003] [(77003, .cells 27 [lf az f.Links, .own 77511, lf aN f.aF])] ?_
 refine qD [] [3] [] [77003, 77006] [(77006, .cells 27 [lf az f.Links, .own 77511, lf aN f.aF])] ?_
 refine A.ret ?_
 obtain rfl := some_inj hm
 exact A.fin W0 [.fz [77511]] rfl (by kernel_rfl)
theorem uH {f : aA} {i : Int} {seq : Int} {r : aA} (hm : lM f i seq = some r) : RO Tryz.prog 76 [] [.agg (k11 f), i6 i, i6 seq] (.agg (k11 r)) := by
 refine aQ Tryz.func76 rfl rfl ?_
 unfold lM at hm
 refine qS [(0, .al 76003), (1, .al 76006)] [(1, i6 i), (2, i6 seq), (3, .ptr 76003 0), (6, .ptr 76006 0)] [(76003, .cells 27 (k11 f)), (76006, .cells 27 [.aD, .aD, .aD])] ?_
 obtain ⟨e_1, h1, hm⟩ := aa hm
 refine qD [(3, hix (ix aL h1)), (5, .al 76007)] [] [(7, .ptr 76007 0)] [] [(76007, .cells 81 (k8 e_1))] ?_
 refine qD [] [] [] [76007] [(76007, .cells 81 [i6 e_1.aj, i6 seq, .bool e_1.bh, lf aR e_1.Claims, lf aJ e_1.Database.ay])] ?_
 obtain ⟨af, h2, hm⟩ := aa hm
 refine qD [(3, hro (vX h2) aqk), (7, .al 76008)] [2] [(8, .ptr 76008 0)] [] [(76008, .cells 50 (k6 af.1))] ?_
 obtain ⟨aq, h3, hm⟩ := aa hm
 refine qD [(3, hro (abp h3) aur)] [8] [] [76007, 76008] [(76007, .cells 81 [i6 e_1.aj, i6 seq, .bool e_1.bh, lf aR e_1.Claims, lf aJ aq.1.ay])] ?_
 obtain ⟨aI, h4, hm⟩ := aa hm
 refine qS [(3, hro (vf h4) aqm)] [(6, .ptr 76006 0)] [(76006, .cells 27 (k11 aI))] ?_
 cases hm
 exact A.ret qE
theorem wR {f : aA} {aC : Int} {r : aA × Int} (hm : kj f aC = some r) : RO Tryz.prog 29 [] [.agg (k11 f), i6 aC] (.tup [.agg (k11 r.1), i6 r.2]) := by
 refine aQ Tryz.func29 rfl rfl ?_
 unfold kj at hm
 refine qS [(0, .al 29002), (1, .al 29004)] [(1, i6 aC), (2, .ptr 29002 0), (4, .ptr 29004 0)] [(29002, .cells 27 (k11 f)), (29004, .cells 27 [.aD, .aD, .aD])] ?_
 refine A.seq ?_
 obtain ⟨af, h1, hm⟩ := aa hm
 refine qDs [(1, hro (fD h1) wJ)] [] [(9, .bool (!af))] ?_
 rcases ah hm with ⟨c1,hm⟩|⟨c1,hm⟩
 ·refine qT c1 ?_
  refine qD [] [1, 2, 9] [(5, i6 1)] [29002] [] ?_
  cases hm
  exact A.ret qE
 refine qF c1 ?_
 refine A.skip ?_
 show ai _ _ _ _ _
 obtain ⟨aq, h2, hm⟩ := aa hm
 refine qDs [(2, hro (ei h2) uy)] [1, 9] [(6, i6 aq)] ?_
 refine A.seq ?_
 refine qDs [] [] [(15, .bool (decide (aq < (0:Int))))] ?_
 rcases ah hm with ⟨c2,hm⟩|⟨c2,hm⟩
 ·refine qT c2 ?_
  refine qD [] [2, 6, 15] [(5, i6 4)] [29002] [] ?_
  cases hm
  exact A.ret qE
 refine qF c2 ?_
 refine A.skip ?_
 show ai _ _ _ _ _
 refine A.seq ?_
 obtain ⟨e_1, h3, hm⟩ := aa hm
 refine qDs [(3, hix (ix aL h3))] [15] [(23, .bool (decide (e_1.Seq = (1000000:Int))))] ?_
 rcases ah hm with ⟨c3,hm⟩|⟨c3,hm⟩
 ·refine qT c3 ?_
  refine qD [] [2, 6, 23] [(5, i6 7)] [29002] [] ?_
  cases hm
  exact A.ret qE
 refine qF c3 ?_
 refine A.skip ?_
 show ai _ _ _ _ _
 obtain ⟨aI, h4, hm⟩ := aa hm
 refine qS [(5, hix (ix aL h3)), (9, hro (uH h4) aql)] [(4, .ptr 29004 0), (5, i6 0)] [(29004, .cells 27 (k11 aI))] ?_
 cases hm
 exact A.ret qE
theorem xY {f : aA} {aC : Int} {r : aA × Int} (hm : l8 f aC = some r) : RO Tryz.prog 31 [] [.agg (k11 f), i6 aC] (.tup [.agg (k11 r.1), i6 r.2]) := by
 refine aQ Tryz.func31 rfl rfl ?_
 unfold l8 at hm
 refine qS [(0, .al 31002), (1, .al 31004)] [(1, i6 aC), (2, .ptr 31002 0), (4, .ptr 31004 0)] [(31002, .cells 27 (k11 f)), (31004, .cells 27 [.aD, .aD, .aD])] ?_
 refine A.seq ?_
 obtain ⟨af, h1, hm⟩ := aa hm
 refine qDs [(1, hro (fD h1) wJ)] [] [(10, .bool (!af))] ?_
 rcases ah hm with ⟨c1,hm⟩|⟨c1,hm⟩
 ·refine qT c1 ?_
  refine qD [] [1, 2, 10] [(5, i6 1)] [31002] [] ?_
  cases hm
  exact A.ret qE
 refine qF c1 ?_
 refine A.skip ?_
 show ai _ _ _ _ _
 obtain ⟨aq, h2, hm⟩ := aa hm
 refine qDs [(2, hro (ei h2) uy)] [1, 10] [(6, i6 aq)] ?_
 refine A.seq ?_
 refine qDs [] [] [(16, .bool (decide (aq < (0:Int))))] ?_
 rcases ah hm with ⟨c2,hm⟩|⟨c2,hm⟩
 ·refine qT c2 ?_
  refine qD [] [2, 6, 16] [(5, i6 4)] [31002] [] ?_
  cases hm
  exact A.ret qE
 refine qF c2 ?_
 refine A.skip ?_
 show ai _ _ _ _ _
 obtain ⟨e_1, h3, hm⟩ := aa hm
 refine qD [(3, hix (ix aL h3)), (5, .al 31007)] [16] [(7, .ptr 31007 0)] [] [(31007, .cells 81 (k8 e_1))] ?_
 refine qD [] [] [] [31007] [(31007, .cells 81 [i6 e_1.aj, i6 e_1.Seq, .bool e_1.bh, lf aR e_1.Claims, .aD])] ?_
 obtain ⟨aI, h4, hm⟩ := aa hm
 obtain ⟨bk, h5, hm⟩ := aa hm
 refine qS [(3, hro (vf h4) aqm), (5, hro (uH h5) aql)] [(4, .ptr 31004 0), (5, i6 0)] [(31004, .cells 27 (k11 bk))] ?_
 cases hm
 exact A.ret qE
theorem aaQ {f : aA} {aC : Int} {r : aA × Int} (hm : oS f aC = some r) : RO Tryz.prog 33 [] [.agg (k11 f), i6 aC] (.tup [.agg (k11 r.1), i6 r.2]) := by
 refine aQ Tryz.func33 rfl rfl ?_
 unfold oS at hm
 refine qS [(0, .al 33002), (1, .al 33004)] [(1, i6 aC), (2, .ptr 33002 0), (4, .ptr 33004 0)] [(33002, .cells 27 (k11 f)), (33004, .cells 27 [.aD, .aD, .aD])] ?_
 refine A.seq ?_
 obtain ⟨af, h1, hm⟩ := aa hm
 refine qDs [(1, hro (fD h1) wJ)] [] [(12, .bool (!af))] ?_
 rcases ah hm with ⟨c1,hm⟩|⟨c1,hm⟩
 ·refine qT c1 ?_
  refine qD [] [1, 2, 12] [(5, i6 1)] [33002] [] ?_
  cases hm
  exact A.ret qE
 refine qF c1 ?_
 refine A.skip ?_
 show ai _ _ _ _ _
 obtain ⟨aq, h2, hm⟩ := aa hm
 refine qDs [(2, hro (ei h2) uy)] [12] [(6, i6 aq)] ?_
 refine A.seq ?_
 refine qDs [] [] [(18, .bool (decide (aq < (0:Int))))] ?_
 rcases ah hm with ⟨c2,hm⟩|⟨c2,hm⟩
 ·refine qT c2 ?_
  refine qD [] [1, 2, 6, 18] [(5, i6 4)] [33002] [] ?_
  cases hm
  exact A.ret qE
 refine qF c2 ?_
 refine A.skip ?_
 show ai _ _ _ _ _
 obtain ⟨aI, h3, hm⟩ := aa hm
 obtain ⟨bk, h4, hm⟩ := aa hm
 refine qDs [(1, hro (dO h3) vq), (3, hro (rj h4) aiY)] [18] [(7, lf aY bk)] ?_
 refine A.seq ?_
 refine qDs [(2, hto (lnE aN f.aF)), (4, hto (lnE aY bk))] [] [(30, .bool (decide ((400:Int) < w64 ((f.aF.length:Int) + (bk.length:Int)))))] ?_
 rcases ah hm with ⟨c3,hm⟩|⟨c3,hm⟩
 ·refine qT c3 ?_
  refine qD [] [1, 2, 6, 7, 30] [(5, i6 3)] [33002] [] ?_
  cases hm
  exact A.ret qE
 refine qF c3 ?_
 refine A.skip ?_
 show ai _ _ _ _ _
 refine qDs [] [30] [(8, .aD)] ?_
 obtain ⟨l_1, h5, hm⟩ := aa hm
 refine qD [(3, hap 33535 (ap aN (bytes := 40) (by decide) h5))] [8] [(8, .own 33535)] [] [(33535, .slice 62 3 (ml aN l_1) 0 false)] ?_
 refine A.seq ?_
 refine qDs [] [] [(9, i6 0)] ?_
 refine A.block ?_
 refine A.bS 7 rfl fun hb1 => ?_
 obtain ⟨B1, K1, hB1, hK1, hm⟩ := bq hm
 refine A.lpI (l := bk) (j0 := 0) (B := B1) (K := K1) hm (fun j1 => fun l_2 => [(1, i6 aC), (2, .ptr 33002 0), (4, .ptr 33004 0), (6, i6 aq), (7, lf aY bk), (8, .own 600033008), (9, i6 (j1 : Int))]) (fun j1 => fun l_2 => [(33002, .cells 27 (k11 f)), (33004, .cells 27 [.aD, .aD, .aD]), (600033008, .slice 62 3 (ml aN l_2) 0 false)]) ?_ ?_ ?_
 ·exact bz.go [.sw 33535 600033008] [] (by kernel_rfl)
 ·rintro j1 e1 Z1 l_2 hj1 hx1 hm
  rw [hB1] at hm
  refine A.seq ?_
  refine qDs [(2, hto (lnE aY bk))] [] [(39, .bool (decide ((j1 : Int) < (bk.length:Int))))] ?_
  refine qT (ltT hx1) ?_
  refine A.skip ?_
  show ai _ _ _ _ _
  refine A.seq ?_
  refine A.block ?_
  obtain ⟨e_1, h6, hm⟩ := aa hm
  obtain ⟨l_3, h7, hm⟩ := aa hm
  refine qG [(4, hix (ix aY (aV hx1))), (9, hix (ix aL h6)), (14, hap 33556 (ap aN (bytes := 40) (by decide) h7))] [8, 39] [(8, .own 33556)] [600033008] [(33556, .slice 62 3 (ml aN l_3) 0 false)] ?_
  show ai _ _ _ _ _
  refine qGs [(1, hto (inc hx1 hb1))] [9] [(9, i6 ((j1 + 1 : Nat) : Int))] ?_
  exact Exists.intro l_3 (And.intro hm (bz.go [.sw 33556 600033008] [] (by kernel_rfl)))
 rintro j1 l_2 hj1 hl1 hm
 rw [hK1] at hm
 refine A.seq ?_
 refine qDs [(2, hto (lnE aY bk))] [] [(39, .bool (decide ((j1 : Int) < (bk.length:Int))))] ?_
 refine qF (ltF hl1) ?_
 refine A.exit ?_
 show ai _ _ _ _ _
 refine qD [] [1, 6, 7, 8, 9, 39] [] [33002] [(33002, .cells 27 [lf az f.Links, lf aL f.aG, .own 600033008])] ?_
 refine qD [] [2] [(5, i6 0)] [33002, 33004] [(33004, .cells 27 [lf az f.Links, lf aL f.aG, .own 600033008])] ?_
 refine A.ret ?_
 obtain rfl := some_inj hm
 exact A.fin W0 [.fz [600033008]] rfl (by kernel_rfl)
theorem sS {f : aA} {r : Bool} (hm : l9 f = some r) : RO Tryz.prog 20 [] [.agg (k11 f)] (.bool r) := by
 refine aQ Tryz.func20 rfl rfl ?_
 unfold l9 at hm
 refine qS [(0, .al 20001)] [(1, .ptr 20001 0)] [(20001, .cells 27 (k11 f))] ?_
 refine A.seq ?_
 obtain ⟨J1, hJ1, hm⟩ := bB hm
 refine A.J (J := J1) (r := r) (fun v_1 => [(1, .ptr 20001 0), (18, .bool v_1)]) (fun v_1 => [(20001, .cells 27 (k11 f))]) ?_ ?_
 ·obtain ⟨af, h1, hm⟩ := aa hm
  rcases ah hm with ⟨c1,hm⟩|⟨c1,hm⟩
  ·refine qGs [(1, hro (fD h1) wJ), (3, hto (bE c1))] [] [(18, .bool true)] ?_
   exact qX true hm
  refine qGs [(1, hro (fD h1) wJ), (3, hto (bE c1)), (6, hto (lnE aN f.aF))] [] [(18, .bool (decide ((0:Int) < (f.aF.length:Int))))] ?_
  exact qX (decide ((0:Int) < (f.aF.length:Int))) hm
 rintro v_1 hm
 rw [hJ1] at hm
 rcases ah hm with ⟨c2,hm⟩|⟨c2,hm⟩
 ·refine qT c2 ?_
  refine qS [] [(2, .bool false)] [] ?_
  cases hm
  exact A.ret qE
 refine qF c2 ?_
 refine A.skip ?_
 show ai _ _ _ _ _
 obtain ⟨aq, h2, hm⟩ := aa hm
 refine qD [(1, hro (dO h2) vq), (2, .al 20003)] [18] [(3, .ptr 20003 0)] [] [(20003, .cells 44 (k2 aq))] ?_
 refine A.seq ?_
 refine qDs [] [] [(4, i6 0)] ?_
 refine A.block ?_
 refine A.bC 1 1 rfl rfl rfl fun hb1 => ?_
 obtain ⟨B1, K1, hB1, hK1, hm⟩ := bq hm
 refine A.lpI (l := f.aG) (j0 := 0) (B := B1) (K := K1) hm (fun j1 => fun sg => match sg with | () => [(1, .ptr 20001 0), (3, .ptr 20003 0), (4, i6 (j1 : Int))]) (fun j1 => fun sg => match sg with | () => [(20001, .cells 27 (k11 f)), (20003, .cells 44 (k2 aq))]) ?_ ?_ ?_
 ·exact qW
 ·rintro j1 e1 Z1 ⟨⟩ hj1 hx1 hm
  rw [hB1] at hm
  refine A.seq ?_
  refine qDs [(3, hto (lnE aL f.aG))] [] [(25, .bool (decide ((j1 : Int) < (f.aG.length:Int))))] ?_
  refine qT (ltT hx1) ?_
  refine A.skip ?_
  show ai _ _ _ _ _
  refine A.seq ?_
  refine A.block ?_
  obtain ⟨aI, h3, hm⟩ := aa hm
  refine qD [(4, hix (ix aL (aV hx1))), (7, hro (vY h3) aqa), (11, .al 20005)] [25] [(5, .ptr 20005 0), (6, .bool aI.2)] [] [(20005, .cells 50 (k6 aI.1))] ?_
  obtain ⟨bk, h4, hm⟩ := aa hm
  refine qD [(3, hix (ix aL (aV hx1))), (9, hix (ix aL (aV hx1))), (12, hro (ve h4) aqi), (16, .al 20007)] [] [(7, .ptr 20007 0), (8, .bool bk.2)] [] [(20007, .cells 50 (k6 bk.1))] ?_
  refine A.seq ?_
  obtain ⟨J2, hJ2, hm⟩ := bB hm
  refine A.J (J := J2) (r := r) (fun v_2 => [(1, .ptr 20001 0), (3, .ptr 20003 0), (4, i6 (j1 : Int)), (66, .bool v_2)]) (fun v_2 => [(20001, .cells 27 (k11 f)), (20003, .cells 44 (k2 aq))]) ?_ ?_
  ·rcases ah hm with ⟨c3,hm⟩|⟨c3,hm⟩
   ·refine qG [(2, hto (bE c3))] [5, 6, 7, 8] [(66, .bool true)] [20005, 20007] [] ?_
    exact qX true hm
   rcases ah hm with ⟨c4,hm⟩|⟨c4,hm⟩
   ·refine qG [(2, hto (bE c3)), (6, hto (bE c4))] [5, 6, 7, 8] [(66, .bool true)] [20005, 20007] [] ?_
    exact qX true hm
   obtain ⟨bG, h5, hm⟩ := aa hm
   refine qG [(2, hto (bE c3)), (6, hto (bE c4)), (9, hro (oE h5) ae5)] [5, 6, 7, 8] [(66, .bool (!bG))] [20005, 20007] [] ?_
   exact qX (!bG) hm
  rintro v_2 hm
  rw [hJ2] at hm
  rcases ah hm with ⟨c5,hm⟩|⟨c5,hm⟩
  ·refine qT c5 ?_
   refine qS [] [(2, .bool false)] [] ?_
   cases hm
   exact A.ret qE
  refine qF c5 ?_
  refine A.skip ?_
  show ai _ _ _ _ _
  refine qDs [] [66] [(9, i6 0)] ?_
  refine A.block ?_
  obtain ⟨hh2, hm⟩ := eV hm
  obtain ⟨B2, K2, hB2, hK2, hm⟩ := gO hm
  refine A.lpN (hi := (j1 : Int)) (B := B2) (K := K2) hm rfl (fun j2 => fun sg => match sg with | () => [(1, .ptr 20001 0), (3, .ptr 20003 0), (4, i6 (j1 : Int)), (9, i6 (j2 : Int))]) (fun j2 => fun sg => match sg with | () => [(20001, .cells 27 (k11 f)), (20003, .cells 44 (k2 aq))]) ?_ ?_ ?_
  ·exact qW
  ·rintro j2 Z2 ⟨⟩ hj2 hx2 hm
   rw [hB2] at hm
   refine A.seq ?_
   refine qDs [] [] [(69, .bool (decide ((j2 : Int) < (j1 : Int))))] ?_
   refine A.cT rfl (decide_eq_true hx2) ?_
   refine A.skip ?_
   show ai _ _ _ _ _
   refine A.seq ?_
   refine A.block ?_
   obtain ⟨J3, hJ3, hm⟩ := bB hm
   refine A.J (J := J3) (r := r) (fun v_3 => [(1, .ptr 20001 0), (3, .ptr 20003 0), (4, i6 (j1 : Int)), (9, i6 (j2 : Int)), (101, .bool v_3)]) (fun v_3 => [(20001, .cells 27 (k11 f)), (20003, .cells 44 (k2 aq))]) ?_ ?_
   ·obtain ⟨e_1, h6, hm⟩ := aa hm
    obtain ⟨b9, h7, hm⟩ := aa hm
    rcases ah hm with ⟨c6,hm⟩|⟨c6,hm⟩
    ·obtain ⟨ct, h8, hm⟩ := aa hm
     refine qGs [(4, hix (ix aL (aV hx1))), (10, hix (ix aL h6)), (13, hro (rq h7) aqj), (14, hto (bE c6)), (18, hix (ix aL (aV hx1))), (24, hix (ix aL h6)), (27, hro (oF h8) ae6)] [69] [(101, .bool (!ct))] ?_
     exact qX (!ct) hm
    refine qGs [(4, hix (ix aL (aV hx1))), (10, hix (ix aL h6)), (13, hro (rq h7) aqj), (14, hto (bE c6))] [69] [(101, .bool false)] ?_
    exact qX false hm
   rintro v_3 hm
   rw [hJ3] at hm
   rcases ah hm with ⟨c7,hm⟩|⟨c7,hm⟩
   ·refine qT c7 ?_
    refine qS [] [(2, .bool false)] [] ?_
    cases hm
    exact A.ret qE
   refine qF c7 ?_
   refine A.skip ?_
   show ai _ _ _ _ _
   refine qGs [(1, hto (qO (by omega) hx2 (of_decide_eq_true hh2)))] [9, 101] [(9, i6 (j2 + 1 : Int))] ?_
   exact qX () hm
  rintro j2 ⟨⟩ hj2 hl2 hm
  rw [hK2] at hm
  refine A.seq ?_
  refine qDs [] [] [(69, .bool (decide ((j2 : Int) < (j1 : Int))))] ?_
  refine A.cF rfl (geF hl2) ?_
  refine A.exit ?_
  show ai _ _ _ _ _
  refine qGs [(1, hto (inc hx1 hb1))] [4, 9, 69] [(4, i6 ((j1 + 1 : Nat) : Int))] ?_
  exact qX () hm
 rintro j1 ⟨⟩ hj1 hl1 hm
 rw [hK1] at hm
 refine A.seq ?_
 refine qDs [(3, hto (lnE aL f.aG))] [] [(25, .bool (decide ((j1 : Int) < (f.aG.length:Int))))] ?_
 refine qF (ltF hl1) ?_
 refine A.exit ?_
 show ai _ _ _ _ _
 refine qS [] [(2, .bool true)] [] ?_
 cases hm
 exact A.ret qE
theorem ec {a : aA} {b : aA} {r : Bool} (hm : kX a b = some r) : RO Tryz.prog 15 [] [.agg (k11 a), .agg (k11 b)] (.bool r) := by
 refine aQ Tryz.func15 rfl rfl ?_
 unfold kX at hm
 refine qS [(0, .al 15002), (1, .al 15003)] [(2, .ptr 15002 0), (3, .ptr 15003 0)] [(15002, .cells 27 (k11 a)), (15003, .cells 27 (k11 b))] ?_
 refine A.seq ?_
 obtain ⟨J1, hJ1, hm⟩ := bB hm
 refine A.J (J := J1) (r := r) (fun v_1 => [(2, .ptr 15002 0), (3, .ptr 15003 0), (26, .bool v_1)]) (fun v_1 => [(15002, .cells 27 (k11 a)), (15003, .cells 27 (k11 b))]) ?_ ?_
 ·obtain ⟨af, h1, hm⟩ := aa hm
  obtain ⟨aq, h2, hm⟩ := aa hm
  obtain ⟨aI, h3, hm⟩ := aa hm
  rcases ah hm with ⟨c1,hm⟩|⟨c1,hm⟩
  ·refine qGs [(1, hro (dO h1) vq), (3, hro (dO h2) vq), (4, hro (ru h3) aiT), (6, hto (bE c1))] [] [(26, .bool true)] ?_
   exact qX true hm
  refine qGs [(1, hro (dO h1) vq), (3, hro (dO h2) vq), (4, hro (ru h3) aiT), (6, hto (bE c1)), (9, hto (lnE aN a.aF)), (12, hto (lnE aN b.aF))] [] [(26, .bool (!decide ((a.aF.length:Int) = (b.aF.length:Int))))] ?_
  exact qX (!decide ((a.aF.length:Int) = (b.aF.length:Int))) hm
 rintro v_1 hm
 rw [hJ1] at hm
 rcases ah hm with ⟨c2,hm⟩|⟨c2,hm⟩
 ·refine qT c2 ?_
  refine qS [] [(4, .bool false)] [] ?_
  cases hm
  exact A.ret qE
 refine qF c2 ?_
 refine A.skip ?_
 show ai _ _ _ _ _
 refine A.seq ?_
 refine qDs [] [26] [(5, i6 0)] ?_
 refine A.block ?_
 refine A.bC 2 1 rfl rfl rfl fun hb1 => ?_
 obtain ⟨B1, K1, hB1, hK1, hm⟩ := bq hm
 refine A.lpI (l := a.aG) (j0 := 0) (B := B1) (K := K1) hm (fun j1 => fun sg => match sg with | () => [(2, .ptr 15002 0), (3, .ptr 15003 0), (5, i6 (j1 : Int))]) (fun j1 => fun sg => match sg with | () => [(15002, .cells 27 (k11 a)), (15003, .cells 27 (k11 b))]) ?_ ?_ ?_
 ·exact qW
 ·rintro j1 e1 Z1 ⟨⟩ hj1 hx1 hm
  rw [hB1] at hm
  refine A.seq ?_
  refine qDs [(3, hto (lnE aL a.aG))] [] [(31, .bool (decide ((j1 : Int) < (a.aG.length:Int))))] ?_
  refine qT (ltT hx1) ?_
  refine A.skip ?_
  show ai _ _ _ _ _
  refine A.seq ?_
  refine A.block ?_
  obtain ⟨e_1, h4, hm⟩ := aa hm
  refine qD [(3, hix (ix aL (aV hx1))), (8, hix (ix aL h4)), (10, .al 15006), (11, .al 15007)] [31] [(6, .ptr 15006 0), (7, .ptr 15007 0)] [] [(15006, .cells 81 (k8 e1)), (15007, .cells 81 (k8 e_1))] ?_
  refine A.seq ?_
  obtain ⟨J2, hJ2, hm⟩ := bB hm
  refine A.J (J := J2) (r := r) (fun v_2 => [(2, .ptr 15002 0), (3, .ptr 15003 0), (5, i6 (j1 : Int)), (6, .ptr 15006 0), (7, .ptr 15007 0), (65, .bool v_2)]) (fun v_2 => [(15002, .cells 27 (k11 a)), (15003, .cells 27 (k11 b)), (15006, .cells 81 (k8 e1)), (15007, .cells 81 (k8 e_1))]) ?_ ?_
  ·rcases ah hm with ⟨c3,hm⟩|⟨c3,hm⟩
   ·refine qGs [(5, hto (bE c3))] [] [(65, .bool true)] ?_
    exact qX true hm
   obtain ⟨bk, h5, hm⟩ := aa hm
   rcases ah hm with ⟨c4,hm⟩|⟨c4,hm⟩
   ·refine qGs [(5, hto (bE c3)), (10, hro (oF h5) ae6), (13, hto (bE c4))] [] [(65, .bool true)] ?_
    exact qX true hm
   refine qGs [(5, hto (bE c3)), (10, hro (oF h5) ae6), (13, hto (bE c4)), (16, hto (lnE aR e1.Claims)), (19, hto (lnE aR e_1.Claims))] [] [(65, .bool (!decide ((e1.Claims.length:Int) = (e_1.Claims.length:Int))))] ?_
   exact qX (!decide ((e1.Claims.length:Int) = (e_1.Claims.length:Int))) hm
  rintro v_2 hm
  rw [hJ2] at hm
  rcases ah hm with ⟨c5,hm⟩|⟨c5,hm⟩
  ·refine qT c5 ?_
   refine qS [] [(4, .bool false)] [] ?_
   cases hm
   exact A.ret qE
  refine qF c5 ?_
  refine A.skip ?_
  show ai _ _ _ _ _
  refine qDs [] [65] [(8, i6 0)] ?_
  refine A.block ?_
  refine A.bC 6 3 rfl rfl rfl fun hb2 => ?_
  obtain ⟨B2, K2, hB2, hK2, hm⟩ := bq hm
  refine A.lpI (l := e1.Claims) (j0 := 0) (B := B2) (K := K2) hm (fun j2 => fun sg => match sg with | () => [(2, .ptr 15002 0), (3, .ptr 15003 0), (5, i6 (j1 : Int)), (6, .ptr 15006 0), (7, .ptr 15007 0), (8, i6 (j2 : Int))]) (fun j2 => fun sg => match sg with | () => [(15002, .cells 27 (k11 a)), (15003, .cells 27 (k11 b)), (15006, .cells 81 (k8 e1)), (15007, .cells 81 (k8 e_1))]) ?_ ?_ ?_
  ·exact qW
  ·rintro j2 e2 Z2 ⟨⟩ hj2 hx2 hm
   rw [hB2] at hm
   refine A.seq ?_
   refine qDs [(3, hto (lnE aR e1.Claims))] [] [(70, .bool (decide ((j2 : Int) < (e1.Claims.length:Int))))] ?_
   refine qT (ltT hx2) ?_
   refine A.skip ?_
   show ai _ _ _ _ _
   refine A.seq ?_
   refine A.block ?_
   obtain ⟨e_2, h6, hm⟩ := aa hm
   refine qDs [(3, hix (ix aR (aV hx2))), (8, hix (ix aR h6)), (10, .sq true 85 (.agg (k4 e2)) (.agg (k4 e_2)) (!(fO e2 e_2)) (fun x y w => zJ x y _ _ _ _ _ _ w))] [70] [(83, .bool (!(fO e2 e_2)))] ?_
   rcases ah hm with ⟨c6,hm⟩|⟨c6,hm⟩
   ·refine qT c6 ?_
    refine qS [] [(4, .bool false)] [] ?_
    cases hm
    exact A.ret qE
   refine qF c6 ?_
   refine A.skip ?_
   show ai _ _ _ _ _
   refine qGs [(1, hto (inc hx2 hb2))] [8, 83] [(8, i6 ((j2 + 1 : Nat) : Int))] ?_
   exact qX () hm
  rintro j2 ⟨⟩ hj2 hl2 hm
  rw [hK2] at hm
  refine A.seq ?_
  refine qDs [(3, hto (lnE aR e1.Claims))] [] [(70, .bool (decide ((j2 : Int) < (e1.Claims.length:Int))))] ?_
  refine qF (ltF hl2) ?_
  refine A.exit ?_
  show ai _ _ _ _ _
  refine qG [(1, hto (inc hx1 hb1))] [5, 6, 7, 8, 70] [(5, i6 ((j1 + 1 : Nat) : Int))] [15006, 15007] [] ?_
  exact qX () hm
 rintro j1 ⟨⟩ hj1 hl1 hm
 rw [hK1] at hm
 refine A.seq ?_
 refine qDs [(3, hto (lnE aL a.aG))] [] [(31, .bool (decide ((j1 : Int) < (a.aG.length:Int))))] ?_
 refine qF (ltF hl1) ?_
 refine A.exit ?_
 show ai _ _ _ _ _
 refine A.seq ?_
 refine qDs [] [5, 31] [(9, i6 0)] ?_
 refine A.block ?_
 refine A.bC 2 2 rfl rfl rfl fun hb3 => ?_
 obtain ⟨B3, K3, hB3, hK3, hm⟩ := bq hm
 refine A.lpI (l := a.aF) (j0 := 0) (B := B3) (K := K3) hm (fun j3 => fun sg => match sg with | () => [(2, .ptr 15002 0), (3, .ptr 15003 0), (9, i6 (j3 : Int))]) (fun j3 => fun sg => match sg with | () => [(15002, .cells 27 (k11 a)), (15003, .cells 27 (k11 b))]) ?_ ?_ ?_
 ·exact qW
 ·rintro j3 e3 Z3 ⟨⟩ hj3 hx3 hm
  rw [hB3] at hm
  refine A.seq ?_
  refine qDs [(3, hto (lnE aN a.aF))] [] [(88, .bool (decide ((j3 : Int) < (a.aF.length:Int))))] ?_
  refine qT (ltT hx3) ?_
  refine A.skip ?_
  show ai _ _ _ _ _
  refine A.seq ?_
  refine A.block ?_
  obtain ⟨e_3, h7, hm⟩ := aa hm
  refine qD [(3, hix (ix aN (aV hx3))), (8, hix (ix aN h7)), (10, .al 15010), (11, .al 15011)] [88] [(10, .ptr 15010 0), (11, .ptr 15011 0)] [] [(15010, .cells 62 (k9 e3)), (15011, .cells 62 (k9 e_3))] ?_
  obtain ⟨J3, hJ3, hm⟩ := bB hm
  refine A.J (J := J3) (r := r) (fun v_3 => [(2, .ptr 15002 0), (3, .ptr 15003 0), (9, i6 (j3 : Int)), (120, .bool v_3)]) (fun v_3 => [(15002, .cells 27 (k11 a)), (15003, .cells 27 (k11 b))]) ?_ ?_
  ·rcases ah hm with ⟨c7,hm⟩|⟨c7,hm⟩
   ·refine qG [(5, hto (bE c7))] [10, 11] [(120, .bool true)] [15010, 15011] [] ?_
    exact qX true hm
   rcases ah hm with ⟨c8,hm⟩|⟨c8,hm⟩
   ·refine qG [(5, hto (bE c7)), (12, hto (bE c8))] [10, 11] [(120, .bool true)] [15010, 15011] [] ?_
    exact qX true hm
   obtain ⟨bG, h8, hm⟩ := aa hm
   refine qG [(5, hto (bE c7)), (12, hto (bE c8)), (17, hro (oF h8) ae6)] [10, 11] [(120, .bool (!bG))] [15010, 15011] [] ?_
   exact qX (!bG) hm
  rintro v_3 hm
  rw [hJ3] at hm
  rcases ah hm with ⟨c9,hm⟩|⟨c9,hm⟩
  ·refine qT c9 ?_
   refine qS [] [(4, .bool false)] [] ?_
   cases hm
   exact A.ret qE
  refine qF c9 ?_
  refine A.skip ?_
  show ai _ _ _ _ _
  refine qGs [(1, hto (inc hx3 hb3))] [9, 120] [(9, i6 ((j3 + 1 : Nat) : Int))] ?_
  exact qX () hm
 rintro j3 ⟨⟩ hj3 hl3 hm
 rw [hK3] at hm
 refine A.seq ?_
 refine qDs [(3, hto (lnE aN a.aF))] [] [(88, .bool (decide ((j3 : Int) < (a.aF.length:Int))))] ?_
 refine qF (ltF hl3) ?_
 refine A.exit ?_
 show ai _ _ _ _ _
 refine qS [] [(4, .bool true)] [] ?_
 cases hm
 exact A.ret qE
end Go.Proofs.YtpmifmdidfgpdaaGreat
