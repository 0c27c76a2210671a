/- The eM of ct of the program. No condition but bU bB stand in each. -/
import Derived.Test.YtpmifmdidfgpdaaGreatDA
import Derived.Test.YtpmifmdidfgpdaaGreatVX
import Derived.Test.YtpmifmdidfgpdaaGreatVO
namespace Go.Proofs.YtpmifmdidfgpdaaGreat
open Go
set_option maxRecDepth 100000
set_option linter.all false
theorem eG {f : aB} {r : aH} (hm : fh f = some r) : RO Tryz.prog 23 [] [.agg (k11 f)] (.agg (k2 r)) := by
 refine aR Tryz.func23 rfl rfl ?_
 unfold fh at hm
 refine qS [(0, .al 23001), (1, .al 23002)] [(1, .ptr 23001 0), (2, .ptr 23002 0)] [(23001, .cells 27 (k11 f)), (23002, .cells 44 [.aC, .aC])] ?_
 refine qD [(3, .al 23003)] [] [(3, .ptr 23003 0)] [] [(23003, .cells 44 [.aC, lf aA f.Links])] ?_
 refine A.seq ?_
 refine qDs [] [] [(4, i6 0)] ?_
 refine A.block ?_
 refine A.bC 1 1 rfl rfl rfl fun hb1 => ?_
 obtain ⟨B1, K1, hB1, hK1, hm⟩ := bt hm
 refine A.lpI (l := f.aG) (j0 := 0) (B := B1) (K := K1) hm (fun j1 => fun m_1 => [(1, .ptr 23001 0), (2, .ptr 23002 0), (3, .ptr 23003 0), (4, i6 (j1 : Int))]) (fun j1 => fun m_1 => [(23001, .cells 27 (k11 f)), (23002, .cells 44 [.aC, .aC]), (23003, .cells 44 [.own 702300300, lf aA f.Links]), (702300300, .slice 87 2 (ml aU m_1) 0 false)]) ?_ ?_ ?_
 ·exact bA.go [.ac 23003 702300300 87 2 0] [] (by kernel_rfl)
 ·rintro j1 e1 Z1 m_1 hj1 hx1 hm
  rw [hB1] at hm
  refine A.seq ?_
  refine qDs [(3, hto (lnE aN f.aG))] [] [(12, .bool (decide ((j1 : Int) < (f.aG.length:Int))))] ?_
  refine qT (ltT hx1) ?_
  refine A.skip ?_
  show ai _ _ _ _ _
  refine A.seq ?_
  refine A.block ?_
  obtain ⟨l_1, h1, hm⟩ := aa hm
  refine qG [(5, hix (ix aN (bf hx1))), (11, hix (ix aN (bf hx1))), (16, hap 23531 (ap aU (bytes := 16) (by decide) h1))] [12] [] [23003, 702300300] [(23003, .cells 44 [.own 23531, lf aA f.Links]), (23531, .slice 87 2 (ml aU l_1) 0 false)] ?_
  show ai _ _ _ _ _
  refine qGs [(1, hto (inc hx1 hb1))] [4] [(4, i6 ((j1 + 1 : Nat) : Int))] ?_
  exact Exists.intro l_1 (And.intro hm (bA.go [.sw 23531 702300300] [] (by kernel_rfl)))
 rintro j1 m_1 hj1 hl1 hm
 rw [hK1] at hm
 refine A.seq ?_
 refine qDs [(3, hto (lnE aN f.aG))] [] [(12, .bool (decide ((j1 : Int) < (f.aG.length:Int))))] ?_
 refine qF (ltF hl1) ?_
 refine A.exit ?_
 show ai _ _ _ _ _
 refine qD [] [1, 3, 4, 12] [] [23001, 23002, 23003] [(23002, .cells 44 [.own 702300300, lf aA f.Links])] ?_
 refine A.ret ?_
 obtain rfl := some_inj hm
 exact A.fin W0 [.fz [702300300]] rfl (by kernel_rfl)
theorem gm {f : aB} {aL : Int} {r : Int} (hm : jS f aL = some r) : RO Tryz.prog 72 [] [.agg (k11 f), i6 aL] (i6 r) := by
 refine aR Tryz.func72 rfl rfl ?_
 unfold jS at hm
 refine qS [(0, .al 72002)] [(1, i6 aL), (2, .ptr 72002 0)] [(72002, .cells 27 (k11 f))] ?_
 refine A.seq ?_
 refine qDs [] [] [(5, i6 0)] ?_
 refine A.block ?_
 refine A.bC 2 1 rfl rfl rfl fun hb1 => ?_
 obtain ⟨B1, K1, hB1, hK1, hm⟩ := bt hm
 refine A.lpI (l := f.aG) (j0 := 0) (B := B1) (K := K1) hm (fun j1 => fun sg => match sg with | () => [(1, i6 aL), (2, .ptr 72002 0), (5, i6 (j1 : Int))]) (fun j1 => fun sg => match sg with | () => [(72002, .cells 27 (k11 f))]) ?_ ?_ ?_
 ·exact qW
 ·rintro j1 e1 Z1 ⟨⟩ hj1 hx1 hm
  rw [hB1] at hm
  refine A.seq ?_
  refine qDs [(3, hto (lnE aN f.aG))] [] [(10, .bool (decide ((j1 : Int) < (f.aG.length:Int))))] ?_
  refine qT (ltT hx1) ?_
  refine A.skip ?_
  show ai _ _ _ _ _
  refine A.seq ?_
  refine A.block ?_
  refine qDs [(3, hix (ix aN (bf hx1)))] [10] [(20, .bool (decide (e1.aq = aL)))] ?_
  rcases ah hm with ⟨c1,hm⟩|⟨c1,hm⟩
  ·refine qT c1 ?_
   refine qS [] [(4, i6 (j1 : Int))] [] ?_
   cases hm
   exact A.ret qE
  refine qF c1 ?_
  refine A.skip ?_
  show ai _ _ _ _ _
  refine qGs [(1, hto (inc hx1 hb1))] [5, 20] [(5, i6 ((j1 + 1 : Nat) : Int))] ?_
  exact qX () hm
 rintro j1 ⟨⟩ hj1 hl1 hm
 rw [hK1] at hm
 refine A.seq ?_
 refine qDs [(3, hto (lnE aN f.aG))] [] [(10, .bool (decide ((j1 : Int) < (f.aG.length:Int))))] ?_
 refine qF (ltF hl1) ?_
 refine A.exit ?_
 show ai _ _ _ _ _
 refine qS [] [(4, i6 (-1))] [] ?_
 cases hm
 exact A.ret qE
theorem qh {f : aB} {r : Bool} (hm : jT f = some r) : RO Tryz.prog 57 [] [.agg (k11 f)] (.bool r) := by
 refine aR Tryz.func57 rfl rfl ?_
 unfold jT at hm
 refine qS [(0, .al 57001)] [(1, .ptr 57001 0)] [(57001, .cells 27 (k11 f))] ?_
 refine A.seq ?_
 obtain ⟨J1, hJ1, hm⟩ := bK hm
 refine A.J (J := J1) (r := r) (fun v_1 => [(1, .ptr 57001 0), (16, .bool v_1)]) (fun v_1 => [(57001, .cells 27 (k11 f))]) ?_ ?_
 ·obtain ⟨af, h1, hm⟩ := aa hm
  obtain ⟨ay, h2, hm⟩ := aa hm
  rcases ah hm with ⟨c1,hm⟩|⟨c1,hm⟩
  ·refine qGs [(1, hro (eG h1) xH), (2, hro (iY h2) aa0), (4, hto (bE c1))] [] [(16, .bool true)] ?_
   exact qX true hm
  refine qGs [(1, hro (eG h1) xH), (2, hro (iY h2) aa0), (4, hto (bE c1)), (7, hto (lnE aF f.aj))] [] [(16, .bool (decide ((400:Int) < (f.aj.length:Int))))] ?_
  exact qX (decide ((400:Int) < (f.aj.length:Int))) hm
 rintro v_1 hm
 rw [hJ1] at hm
 rcases ah hm with ⟨c2,hm⟩|⟨c2,hm⟩
 ·refine qT c2 ?_
  refine qS [] [(2, .bool false)] [] ?_
  cases hm
  exact A.ret qE
 refine qF c2 ?_
 refine A.skip ?_
 show ai _ _ _ _ _
 refine A.seq ?_
 refine qDs [] [16] [(3, i6 0)] ?_
 refine A.block ?_
 refine A.bC 1 1 rfl rfl rfl fun hb1 => ?_
 obtain ⟨B1, K1, hB1, hK1, hm⟩ := bt hm
 refine A.lpI (l := f.aG) (j0 := 0) (B := B1) (K := K1) hm (fun j1 => fun sg => match sg with | () => [(1, .ptr 57001 0), (3, i6 (j1 : Int))]) (fun j1 => fun sg => match sg with | () => [(57001, .cells 27 (k11 f))]) ?_ ?_ ?_
 ·exact qW
 ·rintro j1 e1 Z1 ⟨⟩ hj1 hx1 hm
  rw [hB1] at hm
  refine A.seq ?_
  refine qDs [(3, hto (lnE aN f.aG))] [] [(21, .bool (decide ((j1 : Int) < (f.aG.length:Int))))] ?_
  refine qT (ltT hx1) ?_
  refine A.skip ?_
  show ai _ _ _ _ _
  refine A.seq ?_
  refine A.block ?_
  refine qD [(3, hix (ix aN (bf hx1))), (5, .al 57004)] [21] [(4, .ptr 57004 0)] [] [(57004, .cells 81 (k8 e1))] ?_
  obtain ⟨J2, hJ2, hm⟩ := bK hm
  refine A.J (J := J2) (r := r) (fun v_2 => [(1, .ptr 57001 0), (3, i6 (j1 : Int)), (48, .bool v_2)]) (fun v_2 => [(57001, .cells 27 (k11 f))]) ?_ ?_
  ·rcases ah hm with ⟨c3,hm⟩|⟨c3,hm⟩
   ·refine qG [(3, hto (bE c3))] [4] [(48, .bool true)] [57004] [] ?_
    exact qX true hm
   rcases ah hm with ⟨c4,hm⟩|⟨c4,hm⟩
   ·refine qG [(3, hto (bE c3)), (8, hto (bE c4))] [4] [(48, .bool true)] [57004] [] ?_
    exact qX true hm
   obtain ⟨aJ, h3, hm⟩ := aa hm
   rcases ah hm with ⟨c5,hm⟩|⟨c5,hm⟩
   ·refine qG [(3, hto (bE c3)), (8, hto (bE c4)), (11, hro (l9 h3) aih), (14, hto (bE c5))] [4] [(48, .bool true)] [57004] [] ?_
    exact qX true hm
   obtain ⟨bk, h4, hm⟩ := aa hm
   refine qG [(3, hto (bE c3)), (8, hto (bE c4)), (11, hro (l9 h3) aih), (14, hto (bE c5)), (17, hro (gQ h4) zA)] [4] [(48, .bool (!decide (bk = (0:Int))))] [57004] [] ?_
   exact qX (!decide (bk = (0:Int))) hm
  rintro v_2 hm
  rw [hJ2] at hm
  rcases ah hm with ⟨c6,hm⟩|⟨c6,hm⟩
  ·refine qT c6 ?_
   refine qS [] [(2, .bool false)] [] ?_
   cases hm
   exact A.ret qE
  refine qF c6 ?_
  refine A.skip ?_
  show ai _ _ _ _ _
  refine qGs [(1, hto (inc hx1 hb1))] [3, 48] [(3, i6 ((j1 + 1 : Nat) : Int))] ?_
  exact qX () hm
 rintro j1 ⟨⟩ hj1 hl1 hm
 rw [hK1] at hm
 refine A.seq ?_
 refine qDs [(3, hto (lnE aN f.aG))] [] [(21, .bool (decide ((j1 : Int) < (f.aG.length:Int))))] ?_
 refine qF (ltF hl1) ?_
 refine A.exit ?_
 show ai _ _ _ _ _
 refine A.seq ?_
 refine qDs [] [3, 21] [(5, i6 0)] ?_
 refine A.block ?_
 refine A.bC 1 2 rfl rfl rfl fun hb2 => ?_
 obtain ⟨B2, K2, hB2, hK2, hm⟩ := bt hm
 refine A.lpI (l := f.aj) (j0 := 0) (B := B2) (K := K2) hm (fun j2 => fun sg => match sg with | () => [(1, .ptr 57001 0), (5, i6 (j2 : Int))]) (fun j2 => fun sg => match sg with | () => [(57001, .cells 27 (k11 f))]) ?_ ?_ ?_
 ·exact qW
 ·rintro j2 e2 Z2 ⟨⟩ hj2 hx2 hm
  rw [hB2] at hm
  refine A.seq ?_
  refine qDs [(3, hto (lnE aF f.aj))] [] [(53, .bool (decide ((j2 : Int) < (f.aj.length:Int))))] ?_
  refine qT (ltT hx2) ?_
  refine A.skip ?_
  show ai _ _ _ _ _
  refine A.seq ?_
  refine A.block ?_
  refine qD [(3, hix (ix aF (bf hx2))), (5, .al 57006)] [53] [(6, .ptr 57006 0)] [] [(57006, .cells 62 (k9 e2))] ?_
  obtain ⟨J3, hJ3, hm⟩ := bK hm
  refine A.J (J := J3) (r := r) (fun v_3 => [(1, .ptr 57001 0), (5, i6 (j2 : Int)), (85, .bool v_3)]) (fun v_3 => [(57001, .cells 27 (k11 f))]) ?_ ?_
  ·obtain ⟨bF, h5, hm⟩ := aa hm
   rcases ah hm with ⟨c7,hm⟩|⟨c7,hm⟩
   ·refine qG [(3, hro (gm h5) xI), (5, hto (bE c7))] [6] [(85, .bool true)] [57006] [] ?_
    exact qX true hm
   obtain ⟨bR, h6, hm⟩ := aa hm
   rcases ah hm with ⟨c8,hm⟩|⟨c8,hm⟩
   ·refine qG [(3, hro (gm h5) xI), (5, hto (bE c7)), (9, hro (gm h6) xI), (12, hto (bE c8))] [6] [(85, .bool true)] [57006] [] ?_
    exact qX true hm
   rcases ah hm with ⟨c9,hm⟩|⟨c9,hm⟩
   ·refine qG [(3, hro (gm h5) xI), (5, hto (bE c7)), (9, hro (gm h6) xI), (12, hto (bE c8)), (19, hto (bE c9))] [6] [(85, .bool true)] [57006] [] ?_
    exact qX true hm
   obtain ⟨cG, h7, hm⟩ := aa hm
   refine qG [(3, hro (gm h5) xI), (5, hto (bE c7)), (9, hro (gm h6) xI), (12, hto (bE c8)), (19, hto (bE c9)), (22, hro (gQ h7) zA)] [6] [(85, .bool (!decide (cG = (0:Int))))] [57006] [] ?_
   exact qX (!decide (cG = (0:Int))) hm
  rintro v_3 hm
  rw [hJ3] at hm
  rcases ah hm with ⟨c10,hm⟩|⟨c10,hm⟩
  ·refine qT c10 ?_
   refine qS [] [(2, .bool false)] [] ?_
   cases hm
   exact A.ret qE
  refine qF c10 ?_
  refine A.skip ?_
  show ai _ _ _ _ _
  refine qGs [(1, hto (inc hx2 hb2))] [5, 85] [(5, i6 ((j2 + 1 : Nat) : Int))] ?_
  exact qX () hm
 rintro j2 ⟨⟩ hj2 hl2 hm
 rw [hK2] at hm
 refine A.seq ?_
 refine qDs [(3, hto (lnE aF f.aj))] [] [(53, .bool (decide ((j2 : Int) < (f.aj.length:Int))))] ?_
 refine qF (ltF hl2) ?_
 refine A.exit ?_
 show ai _ _ _ _ _
 refine qS [] [(2, .bool true)] [] ?_
 cases hm
 exact A.ret qE
theorem vO {f : aB} {i : Int} {seq : Int} {r : ak × Bool} (hm : nY f i seq = some r) : RO Tryz.prog 73 [] [.agg (k11 f), i6 i, i6 seq] (.tup [.agg (k6 r.1), .bool r.2]) := by
 refine aR Tryz.func73 rfl rfl ?_
 unfold nY at hm
 refine qS [(0, .al 73003), (1, .al 73006)] [(1, i6 i), (2, i6 seq), (3, .ptr 73003 0), (6, .ptr 73006 0)] [(73003, .cells 27 (k11 f)), (73006, .cells 50 [i6 0, i6 0, .bool false, .aC, .aC])] ?_
 obtain ⟨af, h1, hm⟩ := aa hm
 obtain ⟨e_1, h2, hm⟩ := aa hm
 obtain ⟨ay, h3, hm⟩ := aa hm
 refine qD [(1, hro (eG h1) xH), (5, hix (ix aN h2)), (12, hix (ix aN h2)), (15, hro (abV h3) atT), (19, .al 73008)] [1, 2, 3] [(8, .ptr 73008 0), (9, i6 ay.2)] [73003] [(73008, .cells 50 (k6 ay.1))] ?_
 refine qS [] [(6, .ptr 73006 0), (7, .bool (decide (ay.2 = (0:Int))))] [(73006, .cells 50 (k6 ay.1))] ?_
 cases hm
 exact A.ret qE
theorem uU {f : aB} {i : Int} {n : aZ} {r : aB} (hm : mO f i n = some r) : RO Tryz.prog 77 [] [.agg (k11 f), i6 i, .agg (k8 n)] (.agg (k11 r)) := by
 refine aR Tryz.func77 rfl rfl ?_
 unfold mO at hm
 refine qS [(0, .al 77003), (1, .al 77005), (2, .al 77006)] [(1, i6 i), (3, .ptr 77003 0), (5, .ptr 77005 0), (6, .ptr 77006 0)] [(77003, .cells 27 (k11 f)), (77005, .cells 81 (k8 n)), (77006, .cells 27 [.aC, .aC, .aC])] ?_
 refine qDs [] [] [(7, .aC)] ?_
 obtain ⟨l_1, h1, hm⟩ := aa hm
 refine qD [(3, hap 77511 (ap aN (bytes := 72) (by decide) h1))] [7] [(7, .own 77511)] [] [(77511, .slice 81 5 (ml aN l_1) 0 false)] ?_
 obtain ⟨e_1, h2, hm⟩ := aa hm
 obtain ⟨l_2, h3, hm⟩ := aa hm
 refine qD [(3, hix (ix aN h2)), (4, hso 77511 (st aN (off := 0) (ca := (k8 n)) h2 h3 rfl) (iW h2).1.1)] [1, 5] [] [77005, 77511] [(77511, .slice 81 5 (ml aN l_2) 0 false)] ?_
 refine qD [] [7] [] [77003] [(77003, .cells 27 [lf aA f.Links, .own 77511, lf aF f.aj])] ?_
 refine qD [] [3] [] [77003, 77006] [(77006, .cells 27 [lf aA f.Links, .own 77511, lf aF f.aj])] ?_
 refine A.ret ?_
 obtain rfl := some_inj hm
 exact A.fin W0 [.fz [77511]] rfl (by kernel_rfl)
theorem zP {f : aB} {i : Int} {seq : Int} {r : aB} (hm : jU f i seq = some r) : RO Tryz.prog 76 [] [.agg (k11 f), i6 i, i6 seq] (.agg (k11 r)) := by
 refine aR Tryz.func76 rfl rfl ?_
 unfold jU at hm
 refine qS [(0, .al 76003), (1, .al 76006)] [(1, i6 i), (2, i6 seq), (3, .ptr 76003 0), (6, .ptr 76006 0)] [(76003, .cells 27 (k11 f)), (76006, .cells 27 [.aC, .aC, .aC])] ?_
 obtain ⟨e_1, h1, hm⟩ := aa hm
 refine qD [(3, hix (ix aN h1)), (5, .al 76007)] [] [(7, .ptr 76007 0)] [] [(76007, .cells 81 (k8 e_1))] ?_
 refine qD [] [] [] [76007] [(76007, .cells 81 [i6 e_1.aq, i6 seq, .bool e_1.aW, lf aS e_1.Claims, lf aI e_1.Database.az])] ?_
 obtain ⟨af, h2, hm⟩ := aa hm
 refine qD [(3, hro (vO h2) apJ), (7, .al 76008)] [2] [(8, .ptr 76008 0)] [] [(76008, .cells 50 (k6 af.1))] ?_
 obtain ⟨ay, h3, hm⟩ := aa hm
 refine qD [(3, hro (vK h3) ajC)] [8] [] [76007, 76008] [(76007, .cells 81 [i6 e_1.aq, i6 seq, .bool e_1.aW, lf aS e_1.Claims, lf aI ay.1.az])] ?_
 obtain ⟨aJ, h4, hm⟩ := aa hm
 refine qS [(3, hro (uU h4) apL)] [(6, .ptr 76006 0)] [(76006, .cells 27 (k11 aJ))] ?_
 cases hm
 exact A.ret qE
theorem sN {f : aB} {k : Int} {r : aB} (hm : jJ f k = some r) : RO Tryz.prog 93 [] [.agg (k11 f), i6 k] (.agg (k11 r)) := by
 refine aR Tryz.func93 rfl rfl ?_
 unfold jJ at hm
 refine qS [(0, .al 93002), (1, .al 93004)] [(1, i6 k), (2, .ptr 93002 0), (4, .ptr 93004 0)] [(93002, .cells 27 (k11 f)), (93004, .cells 27 [.aC, .aC, .aC])] ?_
 refine qDs [] [] [(5, .aC)] ?_
 obtain ⟨l_1, h1, hm⟩ := aa hm
 obtain ⟨l_2, h2, hm⟩ := aa hm
 refine qD [(4, hsl (sl aF h1)), (5, hap 93511 (ap aF (bytes := 40) (by decide) h2))] [5] [(5, .own 93511)] [] [(93511, .slice 62 3 (ml aF l_2) 0 false)] ?_
 obtain ⟨l_3, h3, hm⟩ := aa hm
 obtain ⟨l_4, h4, hm⟩ := aa hm
 refine qD [(5, hsl (aou aF h3)), (6, hap 93518 (ap aF (bytes := 40) (by decide) h4))] [1, 5] [] [93002, 93511] [(93002, .cells 27 [lf aA f.Links, lf aN f.aG, .own 93518]), (93518, .slice 62 3 (ml aF l_4) 0 false)] ?_
 refine qD [] [2] [] [93002, 93004] [(93004, .cells 27 [lf aA f.Links, lf aN f.aG, .own 93518])] ?_
 refine A.ret ?_
 obtain rfl := some_inj hm
 exact A.fin W0 [.fz [93518]] rfl (by kernel_rfl)
theorem yQ {f : aB} {m : br} {r : aB} (hm : mP f m = some r) : RO Tryz.prog 92 [] [.agg (k11 f), .agg (k9 m)] (.agg (k11 r)) := by
 refine aR Tryz.func92 rfl rfl ?_
 unfold mP at hm
 refine qS [(0, .al 92002), (1, .al 92003), (2, .al 92004)] [(2, .ptr 92002 0), (3, .ptr 92003 0), (4, .ptr 92004 0)] [(92002, .cells 27 (k11 f)), (92003, .cells 62 (k9 m)), (92004, .cells 27 [.aC, .aC, .aC])] ?_
 refine A.seq ?_
 obtain ⟨af, h1, hm⟩ := aa hm
 obtain ⟨ay, h2, hm⟩ := aa hm
 refine qDs [(1, hro (eG h1) xH), (6, hro (qc h2) aie)] [] [(6, .bool ay.2)] ?_
 refine qDs [] [6] [(24, .bool (!ay.2))] ?_
 rcases ah hm with ⟨c1,hm⟩|⟨c1,hm⟩
 ·refine qT c1 ?_
  refine qS [] [(4, .ptr 92004 0)] [(92004, .cells 27 (k11 f))] ?_
  cases hm
  exact A.ret qE
 refine qF c1 ?_
 refine A.skip ?_
 show ai _ _ _ _ _
 obtain ⟨aJ, h3, hm⟩ := aa hm
 refine qDs [(3, hro (gm h3) xI)] [24] [(7, i6 aJ)] ?_
 obtain ⟨e_1, h4, hm⟩ := aa hm
 refine qD [(3, hix (ix aN h4)), (5, .al 92008)] [] [(8, .ptr 92008 0)] [] [(92008, .cells 81 (k8 e_1))] ?_
 obtain ⟨bk, h5, hm⟩ := aa hm
 refine qD [(4, hro (zO h5) at0)] [] [] [92008] [(92008, .cells 81 [i6 e_1.aq, i6 e_1.Seq, .bool e_1.aW, lf aS e_1.Claims, lf aI bk.1.az])] ?_
 obtain ⟨bF, h6, hm⟩ := aa hm
 refine qD [(3, hro (uU h6) apL)] [] [] [92002] [(92002, .cells 27 (k11 bF))] ?_
 obtain ⟨bR, h7, hm⟩ := aa hm
 refine qD [(4, hro (uT h7) apI), (8, .al 92009)] [3] [(9, .ptr 92009 0), (10, .bool bR.2)] [92003] [(92009, .cells 50 (k6 bR.1))] ?_
 refine A.seq ?_
 refine qDs [] [10] [(57, .bool (!bR.2))] ?_
 rcases ah hm with ⟨c2,hm⟩|⟨c2,hm⟩
 ·refine qT c2 ?_
  refine qS [] [(4, .ptr 92004 0)] [(92004, .cells 27 (k11 bF))] ?_
  cases hm
  exact A.ret qE
 refine qF c2 ?_
 refine A.skip ?_
 show ai _ _ _ _ _
 obtain ⟨cG, h8, hm⟩ := aa hm
 refine qD [(4, hro (vO h8) apJ), (8, .al 92011)] [57] [(11, .ptr 92011 0), (12, .bool cG.2)] [] [(92011, .cells 50 (k6 cG.1))] ?_
 refine A.seq ?_
 obtain ⟨J1, hJ1, hm⟩ := bK hm
 refine A.J (J := J1) (r := r) (fun v_1 => [(2, .ptr 92002 0), (4, .ptr 92004 0), (7, i6 aJ), (9, .ptr 92009 0), (83, .bool v_1)]) (fun v_1 => [(92002, .cells 27 (k11 bF)), (92004, .cells 27 [.aC, .aC, .aC]), (92009, .cells 50 (k6 bR.1))]) ?_ ?_
 ·rcases ah hm with ⟨c3,hm⟩|⟨c3,hm⟩
  ·rcases ah hm with ⟨c4,hm⟩|⟨c4,hm⟩
   ·obtain ⟨cQ, h9, hm⟩ := aa hm
    rcases ah hm with ⟨c5,hm⟩|⟨c5,hm⟩
    ·refine qG [(3, hto (bE c3)), (6, hto (bE c4)), (9, hro (ru h9) ah9), (11, hto (bE c5))] [8, 11, 12] [(83, .bool true)] [92008, 92011] [] ?_
     exact qX true hm
    refine qG [(3, hto (bE c3)), (6, hto (bE c4)), (9, hro (ru h9) ah9), (11, hto (bE c5))] [8, 11, 12] [(83, .bool (decide ((1000000:Int) < w64 (bR.1.Seq + (1:Int)))))] [92008, 92011] [] ?_
    exact qX (decide ((1000000:Int) < w64 (bR.1.Seq + (1:Int)))) hm
   refine qG [(3, hto (bE c3)), (6, hto (bE c4))] [8, 11, 12] [(83, .bool (decide ((1000000:Int) < w64 (bR.1.Seq + (1:Int)))))] [92008, 92011] [] ?_
   exact qX (decide ((1000000:Int) < w64 (bR.1.Seq + (1:Int)))) hm
  refine qG [(3, hto (bE c3))] [8, 11, 12] [(83, .bool (decide ((1000000:Int) < w64 (bR.1.Seq + (1:Int)))))] [92008, 92011] [] ?_
  exact qX (decide ((1000000:Int) < w64 (bR.1.Seq + (1:Int)))) hm
 rintro v_1 hm
 rw [hJ1] at hm
 rcases ah hm with ⟨c6,hm⟩|⟨c6,hm⟩
 ·refine qT c6 ?_
  refine qS [] [(4, .ptr 92004 0)] [(92004, .cells 27 (k11 bF))] ?_
  cases hm
  exact A.ret qE
 refine qF c6 ?_
 refine A.skip ?_
 show ai _ _ _ _ _
 obtain ⟨dA, h10, hm⟩ := aa hm
 refine qS [(5, hro (zP h10) ck76)] [(4, .ptr 92004 0)] [(92004, .cells 27 (k11 dA))] ?_
 cases hm
 exact A.ret qE
theorem xQ {f : aB} {k : Int} {r : aB × Int} (hm : lV f k = some r) : RO Tryz.prog 42 [] [.agg (k11 f), i6 k] (.tup [.agg (k11 r.1), i6 r.2]) := by
 refine aR Tryz.func42 rfl rfl ?_
 unfold lV at hm
 refine qS [(0, .al 42002), (1, .al 42004)] [(1, i6 k), (2, .ptr 42002 0), (4, .ptr 42004 0)] [(42002, .cells 27 (k11 f)), (42004, .cells 27 [.aC, .aC, .aC])] ?_
 refine A.seq ?_
 obtain ⟨af, h1, hm⟩ := aa hm
 refine qDs [(1, hro (qh h1) aia)] [] [(9, .bool (!af))] ?_
 rcases ah hm with ⟨c1,hm⟩|⟨c1,hm⟩
 ·refine qT c1 ?_
  refine qD [] [1, 2, 9] [(5, i6 1)] [42002] [] ?_
  cases hm
  exact A.ret qE
 refine qF c1 ?_
 refine A.skip ?_
 show ai _ _ _ _ _
 refine A.seq ?_
 refine A.mid [(1, i6 k), (2, .ptr 42002 0), (4, .ptr 42004 0), (19, .bool ((decide (k < (0:Int))) || (decide ((f.aj.length:Int) ≤ k))))] [(42002, .cells 27 (k11 f)), (42004, .cells 27 [.aC, .aC, .aC])] (fun hk => ?_) ?_
 ·rcases tf (decide (k < (0:Int))) with c2 | c2
  ·exact qS [(2, hto (bE c2)), (8, hto (orT (q := decide ((f.aj.length:Int) ≤ k)) c2))] _ _ hk
  exact qS [(2, hto (bE c2)), (6, hto (lnE aF f.aj)), (8, hto (orF (q := decide ((f.aj.length:Int) ≤ k)) c2))] _ _ hk
 rcases ah hm with ⟨c3,hm⟩|⟨c3,hm⟩
 ·refine qT c3 ?_
  refine qD [] [1, 2, 19] [(5, i6 4)] [42002] [] ?_
  cases hm
  exact A.ret qE
 refine qF c3 ?_
 refine A.skip ?_
 show ai _ _ _ _ _
 obtain ⟨e_1, h2, hm⟩ := aa hm
 refine qD [(3, hix (ix aF h2)), (5, .al 42006)] [19] [(6, .ptr 42006 0)] [] [(42006, .cells 62 (k9 e_1))] ?_
 obtain ⟨ay, h3, hm⟩ := aa hm
 obtain ⟨aJ, h4, hm⟩ := aa hm
 refine qS [(2, hro (sN h3) apO), (4, hro (yQ h4) ck92)] [(4, .ptr 42004 0), (5, i6 0)] [(42004, .cells 27 (k11 aJ))] ?_
 cases hm
 exact A.ret qE
theorem aaw {f : aB} {k : Int} {r : aB × Int} (hm : oK f k = some r) : RO Tryz.prog 44 [] [.agg (k11 f), i6 k] (.tup [.agg (k11 r.1), i6 r.2]) := by
 refine aR Tryz.func44 rfl rfl ?_
 unfold oK at hm
 refine qS [(0, .al 44002), (1, .al 44004)] [(1, i6 k), (2, .ptr 44002 0), (4, .ptr 44004 0)] [(44002, .cells 27 (k11 f)), (44004, .cells 27 [.aC, .aC, .aC])] ?_
 refine A.seq ?_
 obtain ⟨af, h1, hm⟩ := aa hm
 refine qDs [(1, hro (qh h1) aia)] [] [(8, .bool (!af))] ?_
 rcases ah hm with ⟨c1,hm⟩|⟨c1,hm⟩
 ·refine qT c1 ?_
  refine qD [] [1, 2, 8] [(5, i6 1)] [44002] [] ?_
  cases hm
  exact A.ret qE
 refine qF c1 ?_
 refine A.skip ?_
 show ai _ _ _ _ _
 refine A.seq ?_
 refine A.mid [(1, i6 k), (2, .ptr 44002 0), (4, .ptr 44004 0), (18, .bool ((decide (k < (0:Int))) || (decide ((f.aj.length:Int) ≤ k))))] [(44002, .cells 27 (k11 f)), (44004, .cells 27 [.aC, .aC, .aC])] (fun hk => ?_) ?_
 ·rcases tf (decide (k < (0:Int))) with c2 | c2
  ·exact qS [(2, hto (bE c2)), (8, hto (orT (q := decide ((f.aj.length:Int) ≤ k)) c2))] _ _ hk
  exact qS [(2, hto (bE c2)), (6, hto (lnE aF f.aj)), (8, hto (orF (q := decide ((f.aj.length:Int) ≤ k)) c2))] _ _ hk
 rcases ah hm with ⟨c3,hm⟩|⟨c3,hm⟩
 ·refine qT c3 ?_
  refine qD [] [1, 2, 18] [(5, i6 4)] [44002] [] ?_
  cases hm
  exact A.ret qE
 refine qF c3 ?_
 refine A.skip ?_
 show ai _ _ _ _ _
 obtain ⟨ay, h2, hm⟩ := aa hm
 refine qS [(2, hro (sN h2) apO)] [(4, .ptr 44004 0), (5, i6 0)] [(44004, .cells 27 (k11 ay))] ?_
 cases hm
 exact A.ret qE
theorem yR {f : aB} {k : Int} {r : aB × Int} (hm : mQ f k = some r) : RO Tryz.prog 45 [] [.agg (k11 f), i6 k] (.tup [.agg (k11 r.1), i6 r.2]) := by
 refine aR Tryz.func45 rfl rfl ?_
 unfold mQ at hm
 refine qS [(0, .al 45002), (1, .al 45004)] [(1, i6 k), (2, .ptr 45002 0), (4, .ptr 45004 0)] [(45002, .cells 27 (k11 f)), (45004, .cells 27 [.aC, .aC, .aC])] ?_
 refine A.seq ?_
 obtain ⟨af, h1, hm⟩ := aa hm
 refine qDs [(1, hro (qh h1) aia)] [] [(9, .bool (!af))] ?_
 rcases ah hm with ⟨c1,hm⟩|⟨c1,hm⟩
 ·refine qT c1 ?_
  refine qD [] [1, 2, 9] [(5, i6 1)] [45002] [] ?_
  cases hm
  exact A.ret qE
 refine qF c1 ?_
 refine A.skip ?_
 show ai _ _ _ _ _
 refine A.seq ?_
 refine A.mid [(1, i6 k), (2, .ptr 45002 0), (4, .ptr 45004 0), (19, .bool ((decide (k < (0:Int))) || (decide ((f.aj.length:Int) ≤ k))))] [(45002, .cells 27 (k11 f)), (45004, .cells 27 [.aC, .aC, .aC])] (fun hk => ?_) ?_
 ·rcases tf (decide (k < (0:Int))) with c2 | c2
  ·exact qS [(2, hto (bE c2)), (8, hto (orT (q := decide ((f.aj.length:Int) ≤ k)) c2))] _ _ hk
  exact qS [(2, hto (bE c2)), (6, hto (lnE aF f.aj)), (8, hto (orF (q := decide ((f.aj.length:Int) ≤ k)) c2))] _ _ hk
 rcases ah hm with ⟨c3,hm⟩|⟨c3,hm⟩
 ·refine qT c3 ?_
  refine qD [] [1, 2, 19] [(5, i6 4)] [45002] [] ?_
  cases hm
  exact A.ret qE
 refine qF c3 ?_
 refine A.skip ?_
 show ai _ _ _ _ _
 refine A.seq ?_
 refine qDs [(2, hto (lnE aF f.aj))] [19] [(24, .bool (decide ((f.aj.length:Int) = (400:Int))))] ?_
 rcases ah hm with ⟨c4,hm⟩|⟨c4,hm⟩
 ·refine qT c4 ?_
  refine qD [] [1, 2, 24] [(5, i6 3)] [45002] [] ?_
  cases hm
  exact A.ret qE
 refine qF c4 ?_
 refine A.skip ?_
 show ai _ _ _ _ _
 refine qDs [] [24] [(6, .aC)] ?_
 obtain ⟨l_1, h2, hm⟩ := aa hm
 refine qD [(3, hap 45529 (ap aF (bytes := 40) (by decide) h2))] [6] [(6, .own 45529)] [] [(45529, .slice 62 3 (ml aF l_1) 0 false)] ?_
 obtain ⟨e_1, h3, hm⟩ := aa hm
 obtain ⟨l_2, h4, hm⟩ := aa hm
 refine qD [(4, hix (ix aF h3)), (7, hap 45537 (ap aF (bytes := 40) (by decide) h4))] [1, 6] [] [45002, 45529] [(45002, .cells 27 [lf aA f.Links, lf aN f.aG, .own 45537]), (45537, .slice 62 3 (ml aF l_2) 0 false)] ?_
 refine qD [] [2] [(5, i6 0)] [45002, 45004] [(45004, .cells 27 [lf aA f.Links, lf aN f.aG, .own 45537])] ?_
 refine A.ret ?_
 obtain rfl := some_inj hm
 exact A.fin W0 [.fz [45537]] rfl (by kernel_rfl)
theorem dW {a : aB} {b : aB} {r : Bool} (hm : kP a b = some r) : RO Tryz.prog 15 [] [.agg (k11 a), .agg (k11 b)] (.bool r) := by
 refine aR Tryz.func15 rfl rfl ?_
 unfold kP at hm
 refine qS [(0, .al 15002), (1, .al 15003)] [(2, .ptr 15002 0), (3, .ptr 15003 0)] [(15002, .cells 27 (k11 a)), (15003, .cells 27 (k11 b))] ?_
 refine A.seq ?_
 obtain ⟨J1, hJ1, hm⟩ := bK hm
 refine A.J (J := J1) (r := r) (fun v_1 => [(2, .ptr 15002 0), (3, .ptr 15003 0), (26, .bool v_1)]) (fun v_1 => [(15002, .cells 27 (k11 a)), (15003, .cells 27 (k11 b))]) ?_ ?_
 ·obtain ⟨af, h1, hm⟩ := aa hm
  obtain ⟨ay, h2, hm⟩ := aa hm
  obtain ⟨aJ, h3, hm⟩ := aa hm
  rcases ah hm with ⟨c1,hm⟩|⟨c1,hm⟩
  ·refine qGs [(1, hro (eG h1) xH), (3, hro (eG h2) xH), (4, hro (uQ h3) apw), (6, hto (bE c1))] [] [(26, .bool true)] ?_
   exact qX true hm
  refine qGs [(1, hro (eG h1) xH), (3, hro (eG h2) xH), (4, hro (uQ h3) apw), (6, hto (bE c1)), (9, hto (lnE aF a.aj)), (12, hto (lnE aF b.aj))] [] [(26, .bool (!decide ((a.aj.length:Int) = (b.aj.length:Int))))] ?_
  exact qX (!decide ((a.aj.length:Int) = (b.aj.length:Int))) hm
 rintro v_1 hm
 rw [hJ1] at hm
 rcases ah hm with ⟨c2,hm⟩|⟨c2,hm⟩
 ·refine qT c2 ?_
  refine qS [] [(4, .bool false)] [] ?_
  cases hm
  exact A.ret qE
 refine qF c2 ?_
 refine A.skip ?_
 show ai _ _ _ _ _
 refine A.seq ?_
 refine qDs [] [26] [(5, i6 0)] ?_
 refine A.block ?_
 refine A.bC 2 1 rfl rfl rfl fun hb1 => ?_
 obtain ⟨B1, K1, hB1, hK1, hm⟩ := bt hm
 refine A.lpI (l := a.aG) (j0 := 0) (B := B1) (K := K1) hm (fun j1 => fun sg => match sg with | () => [(2, .ptr 15002 0), (3, .ptr 15003 0), (5, i6 (j1 : Int))]) (fun j1 => fun sg => match sg with | () => [(15002, .cells 27 (k11 a)), (15003, .cells 27 (k11 b))]) ?_ ?_ ?_
 ·exact qW
 ·rintro j1 e1 Z1 ⟨⟩ hj1 hx1 hm
  rw [hB1] at hm
  refine A.seq ?_
  refine qDs [(3, hto (lnE aN a.aG))] [] [(31, .bool (decide ((j1 : Int) < (a.aG.length:Int))))] ?_
  refine qT (ltT hx1) ?_
  refine A.skip ?_
  show ai _ _ _ _ _
  refine A.seq ?_
  refine A.block ?_
  obtain ⟨e_1, h4, hm⟩ := aa hm
  refine qD [(3, hix (ix aN (bf hx1))), (8, hix (ix aN h4)), (10, .al 15006), (11, .al 15007)] [31] [(6, .ptr 15006 0), (7, .ptr 15007 0)] [] [(15006, .cells 81 (k8 e1)), (15007, .cells 81 (k8 e_1))] ?_
  refine A.seq ?_
  obtain ⟨J2, hJ2, hm⟩ := bK hm
  refine A.J (J := J2) (r := r) (fun v_2 => [(2, .ptr 15002 0), (3, .ptr 15003 0), (5, i6 (j1 : Int)), (6, .ptr 15006 0), (7, .ptr 15007 0), (65, .bool v_2)]) (fun v_2 => [(15002, .cells 27 (k11 a)), (15003, .cells 27 (k11 b)), (15006, .cells 81 (k8 e1)), (15007, .cells 81 (k8 e_1))]) ?_ ?_
  ·rcases ah hm with ⟨c3,hm⟩|⟨c3,hm⟩
   ·refine qGs [(5, hto (bE c3))] [] [(65, .bool true)] ?_
    exact qX true hm
   obtain ⟨bk, h5, hm⟩ := aa hm
   rcases ah hm with ⟨c4,hm⟩|⟨c4,hm⟩
   ·refine qGs [(5, hto (bE c3)), (10, hro (ry h5) aib), (13, hto (bE c4))] [] [(65, .bool true)] ?_
    exact qX true hm
   refine qGs [(5, hto (bE c3)), (10, hro (ry h5) aib), (13, hto (bE c4)), (16, hto (lnE aS e1.Claims)), (19, hto (lnE aS e_1.Claims))] [] [(65, .bool (!decide ((e1.Claims.length:Int) = (e_1.Claims.length:Int))))] ?_
   exact qX (!decide ((e1.Claims.length:Int) = (e_1.Claims.length:Int))) hm
  rintro v_2 hm
  rw [hJ2] at hm
  rcases ah hm with ⟨c5,hm⟩|⟨c5,hm⟩
  ·refine qT c5 ?_
   refine qS [] [(4, .bool false)] [] ?_
   cases hm
   exact A.ret qE
  refine qF c5 ?_
  refine A.skip ?_
  show ai _ _ _ _ _
  refine qDs [] [65] [(8, i6 0)] ?_
  refine A.block ?_
  refine A.bC 6 3 rfl rfl rfl fun hb2 => ?_
  obtain ⟨B2, K2, hB2, hK2, hm⟩ := bt hm
  refine A.lpI (l := e1.Claims) (j0 := 0) (B := B2) (K := K2) hm (fun j2 => fun sg => match sg with | () => [(2, .ptr 15002 0), (3, .ptr 15003 0), (5, i6 (j1 : Int)), (6, .ptr 15006 0), (7, .ptr 15007 0), (8, i6 (j2 : Int))]) (fun j2 => fun sg => match sg with | () => [(15002, .cells 27 (k11 a)), (15003, .cells 27 (k11 b)), (15006, .cells 81 (k8 e1)), (15007, .cells 81 (k8 e_1))]) ?_ ?_ ?_
  ·exact qW
  ·rintro j2 e2 Z2 ⟨⟩ hj2 hx2 hm
   rw [hB2] at hm
   refine A.seq ?_
   refine qDs [(3, hto (lnE aS e1.Claims))] [] [(70, .bool (decide ((j2 : Int) < (e1.Claims.length:Int))))] ?_
   refine qT (ltT hx2) ?_
   refine A.skip ?_
   show ai _ _ _ _ _
   refine A.seq ?_
   refine A.block ?_
   obtain ⟨e_2, h6, hm⟩ := aa hm
   refine qDs [(3, hix (ix aS (bf hx2))), (8, hix (ix aS h6)), (10, .sq true 85 (.agg (k4 e2)) (.agg (k4 e_2)) (!(gN e2 e_2)) (fun x y w => zk x y _ _ _ _ _ _ w))] [70] [(83, .bool (!(gN e2 e_2)))] ?_
   rcases ah hm with ⟨c6,hm⟩|⟨c6,hm⟩
   ·refine qT c6 ?_
    refine qS [] [(4, .bool false)] [] ?_
    cases hm
    exact A.ret qE
   refine qF c6 ?_
   refine A.skip ?_
   show ai _ _ _ _ _
   refine qGs [(1, hto (inc hx2 hb2))] [8, 83] [(8, i6 ((j2 + 1 : Nat) : Int))] ?_
   exact qX () hm
  rintro j2 ⟨⟩ hj2 hl2 hm
  rw [hK2] at hm
  refine A.seq ?_
  refine qDs [(3, hto (lnE aS e1.Claims))] [] [(70, .bool (decide ((j2 : Int) < (e1.Claims.length:Int))))] ?_
  refine qF (ltF hl2) ?_
  refine A.exit ?_
  show ai _ _ _ _ _
  refine qG [(1, hto (inc hx1 hb1))] [5, 6, 7, 8, 70] [(5, i6 ((j1 + 1 : Nat) : Int))] [15006, 15007] [] ?_
  exact qX () hm
 rintro j1 ⟨⟩ hj1 hl1 hm
 rw [hK1] at hm
 refine A.seq ?_
 refine qDs [(3, hto (lnE aN a.aG))] [] [(31, .bool (decide ((j1 : Int) < (a.aG.length:Int))))] ?_
 refine qF (ltF hl1) ?_
 refine A.exit ?_
 show ai _ _ _ _ _
 refine A.seq ?_
 refine qDs [] [5, 31] [(9, i6 0)] ?_
 refine A.block ?_
 refine A.bC 2 2 rfl rfl rfl fun hb3 => ?_
 obtain ⟨B3, K3, hB3, hK3, hm⟩ := bt hm
 refine A.lpI (l := a.aj) (j0 := 0) (B := B3) (K := K3) hm (fun j3 => fun sg => match sg with | () => [(2, .ptr 15002 0), (3, .ptr 15003 0), (9, i6 (j3 : Int))]) (fun j3 => fun sg => match sg with | () => [(15002, .cells 27 (k11 a)), (15003, .cells 27 (k11 b))]) ?_ ?_ ?_
 ·exact qW
 ·rintro j3 e3 Z3 ⟨⟩ hj3 hx3 hm
  rw [hB3] at hm
  refine A.seq ?_
  refine qDs [(3, hto (lnE aF a.aj))] [] [(88, .bool (decide ((j3 : Int) < (a.aj.length:Int))))] ?_
  refine qT (ltT hx3) ?_
  refine A.skip ?_
  show ai _ _ _ _ _
  refine A.seq ?_
  refine A.block ?_
  obtain ⟨e_3, h7, hm⟩ := aa hm
  refine qD [(3, hix (ix aF (bf hx3))), (8, hix (ix aF h7)), (10, .al 15010), (11, .al 15011)] [88] [(10, .ptr 15010 0), (11, .ptr 15011 0)] [] [(15010, .cells 62 (k9 e3)), (15011, .cells 62 (k9 e_3))] ?_
  obtain ⟨J3, hJ3, hm⟩ := bK hm
  refine A.J (J := J3) (r := r) (fun v_3 => [(2, .ptr 15002 0), (3, .ptr 15003 0), (9, i6 (j3 : Int)), (120, .bool v_3)]) (fun v_3 => [(15002, .cells 27 (k11 a)), (15003, .cells 27 (k11 b))]) ?_ ?_
  ·rcases ah hm with ⟨c7,hm⟩|⟨c7,hm⟩
   ·refine qG [(5, hto (bE c7))] [10, 11] [(120, .bool true)] [15010, 15011] [] ?_
    exact qX true hm
   rcases ah hm with ⟨c8,hm⟩|⟨c8,hm⟩
   ·refine qG [(5, hto (bE c7)), (12, hto (bE c8))] [10, 11] [(120, .bool true)] [15010, 15011] [] ?_
    exact qX true hm
   obtain ⟨bF, h8, hm⟩ := aa hm
   refine qG [(5, hto (bE c7)), (12, hto (bE c8)), (17, hro (ry h8) aib)] [10, 11] [(120, .bool (!bF))] [15010, 15011] [] ?_
   exact qX (!bF) hm
  rintro v_3 hm
  rw [hJ3] at hm
  rcases ah hm with ⟨c9,hm⟩|⟨c9,hm⟩
  ·refine qT c9 ?_
   refine qS [] [(4, .bool false)] [] ?_
   cases hm
   exact A.ret qE
  refine qF c9 ?_
  refine A.skip ?_
  show ai _ _ _ _ _
  refine qGs [(1, hto (inc hx3 hb3))] [9, 120] [(9, i6 ((j3 + 1 : Nat) : Int))] ?_
  exact qX () hm
 rintro j3 ⟨⟩ hj3 hl3 hm
 rw [hK3] at hm
 refine A.seq ?_
 refine qDs [(3, hto (lnE aF a.aj))] [] [(88, .bool (decide ((j3 : Int) < (a.aj.length:Int))))] ?_
 refine qF (ltF hl3) ?_
 refine A.exit ?_
 show ai _ _ _ _ _
 refine qS [] [(4, .bool true)] [] ?_
 cases hm
 exact A.ret qE
end Go.Proofs.YtpmifmdidfgpdaaGreat
