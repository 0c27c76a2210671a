/- The eC of cr of the program. No condition but bT bB stand in each. -/
import Derived.Test.YtpmifmdidfgpdaaGreatDA
import Derived.Test.YtpmifmdidfgpdaaGreatV2
import Derived.Test.YtpmifmdidfgpdaaGreatV7
namespace Go.Proofs.YtpmifmdidfgpdaaGreat
open Go
set_option maxRecDepth 100000
set_option linter.all false
theorem abt {t : aD} {aJ : Int} {seq : Int} {cB : List bz} {r : aj × Int} (hm : qL t aJ seq cB = some r) : RO Tryz.prog 127 [] [.agg (k2 t), i6 aJ, i6 seq, lf aS cB] (.tup [.agg (k6 r.1), i6 r.2]) := by
 refine aT Tryz.func127 rfl rfl ?_
 unfold qL at hm
 refine qS [(0, .al 127004), (1, .al 127008)] [(1, i6 aJ), (2, i6 seq), (3, lf aS cB), (4, .ptr 127004 0), (8, .ptr 127008 0)] [(127004, .cells 44 (k2 t)), (127008, .cells 50 [i6 0, i6 0, .bool false, .aG, .aG])] ?_
 refine A.seq ?_
 obtain ⟨af, h1, hm⟩ := aa hm
 refine qDs [(1, hro (iO h1) aax)] [] [(20, .bool (!decide (af = (0:Int))))] ?_
 rcases ai hm with ⟨c1,hm⟩|⟨c1,hm⟩
 ·refine qT c1 ?_
  refine qD [] [1, 2, 3, 4, 20] [(9, i6 1)] [127004] [] ?_
  cases hm
  exact A.ret qE
 refine qF c1 ?_
 refine A.skip ?_
 show ah _ _ _ _ _
 refine A.seq ?_
 obtain ⟨ay, h2, hm⟩ := aa hm
 refine qDs [(2, hro (aay h2) atz)] [20] [(25, .bool (!ay))] ?_
 rcases ai hm with ⟨c2,hm⟩|⟨c2,hm⟩
 ·refine qT c2 ?_
  refine qD [] [1, 2, 3, 4, 25] [(9, i6 4)] [127004] [] ?_
  cases hm
  exact A.ret qE
 refine qF c2 ?_
 refine A.skip ?_
 show ah _ _ _ _ _
 obtain ⟨aK, h3, hm⟩ := aa hm
 refine qD [(4, hro (w8 h3) atN), (7, .al 127010)] [2, 3, 25] [(10, .ptr 127010 0)] [] [(127010, .cells 50 [i6 aJ, i6 seq, .bool aK, .aG, lf aS cB])] ?_
 obtain ⟨bh, h4, hm⟩ := aa hm
 refine qDs [(2, hro (uA h4) apx)] [] [(11, lf bL bh)] ?_
 refine A.seq ?_
 refine qDs [] [] [(12, i6 0)] ?_
 refine A.block ?_
 refine A.bS 11 rfl fun hb1 => ?_
 obtain ⟨B1, K1, hB1, hK1, hm⟩ := bt hm
 refine A.lpI (l := bh) (j0 := 0) (B := B1) (K := K1) hm (fun j1 => fun m_1 => [(1, i6 aJ), (4, .ptr 127004 0), (8, .ptr 127008 0), (10, .ptr 127010 0), (11, lf bL bh), (12, i6 (j1 : Int))]) (fun j1 => fun m_1 => [(127004, .cells 44 (k2 t)), (127008, .cells 50 [i6 0, i6 0, .bool false, .aG, .aG]), (127010, .cells 50 [i6 aJ, i6 seq, .bool aK, .own 712701003, lf aS cB]), (712701003, .slice 106 3 (ml bk m_1) 0 false)]) ?_ ?_ ?_
 ·exact bA.go [.ac 127010 712701003 106 3 3] [] (by kernel_rfl)
 ·rintro j1 e1 Z1 m_1 hj1 hx1 hm
  rw [hB1] at hm
  refine A.seq ?_
  refine qDs [(2, hto (lnE bL bh))] [] [(40, .bool (decide ((j1 : Int) < (bh.length:Int))))] ?_
  refine qT (ltT hx1) ?_
  refine A.skip ?_
  show ah _ _ _ _ _
  refine A.seq ?_
  refine A.block ?_
  obtain ⟨bI, h5, hm⟩ := aa hm
  refine qDs [(4, hix (ix bL (bf hx1))), (6, hro (pL h5) ahN)] [40] [(13, i6 bI.1)] ?_
  refine qD [(2, hix (ix bL (bf hx1))), (6, .al 127015)] [13] [(15, .ptr 127015 0)] [] [(127015, .cells 106 [i6 e1, i6 bI.1, i6 0])] ?_
  refine A.seq ?_
  refine qDs [] [] [(16, i6 0)] ?_
  refine A.block ?_
  refine A.bC 4 1 rfl rfl rfl fun hb2 => ?_
  obtain ⟨B2, K2, hB2, hK2, hm⟩ := bt hm
  refine A.lpI (l := t.Links) (j0 := 0) (B := B2) (K := K2) hm (fun j2 => fun m_2 => [(1, i6 aJ), (4, .ptr 127004 0), (8, .ptr 127008 0), (10, .ptr 127010 0), (11, lf bL bh), (12, i6 (j1 : Int)), (15, .ptr 127015 0), (16, i6 (j2 : Int))]) (fun j2 => fun m_2 => [(127004, .cells 44 (k2 t)), (127008, .cells 50 [i6 0, i6 0, .bool false, .aG, .aG]), (127010, .cells 50 [i6 aJ, i6 seq, .bool aK, .own 712701003, lf aS cB]), (712701003, .slice 106 3 (ml bk m_1) 0 false), (127015, .cells 106 [i6 e1, i6 bI.1, i6 m_2])]) ?_ ?_ ?_
  ·exact qW
  ·rintro j2 e2 Z2 m_2 hj2 hx2 hm
   rw [hB2] at hm
   refine A.seq ?_
   refine qDs [(3, hto (lnE az t.Links))] [] [(63, .bool (decide ((j2 : Int) < (t.Links.length:Int))))] ?_
   refine qT (ltT hx2) ?_
   refine A.skip ?_
   show ah _ _ _ _ _
   obtain ⟨J1, hJ1, hm⟩ := bJ hm
   refine A.J (J := J1) (r := r) (fun m_3 => [(1, i6 aJ), (4, .ptr 127004 0), (8, .ptr 127008 0), (10, .ptr 127010 0), (11, lf bL bh), (12, i6 (j1 : Int)), (15, .ptr 127015 0), (16, i6 (j2 : Int))]) (fun m_3 => [(127004, .cells 44 (k2 t)), (127008, .cells 50 [i6 0, i6 0, .bool false, .aG, .aG]), (127010, .cells 50 [i6 aJ, i6 seq, .bool aK, .own 712701003, lf aS cB]), (712701003, .slice 106 3 (ml bk m_1) 0 false), (127015, .cells 106 [i6 e1, i6 bI.1, i6 m_3])]) ?_ ?_
   ·refine A.block ?_
    refine qD [(3, hix (ix az (bf hx2))), (5, .al 127017)] [63] [(17, .ptr 127017 0)] [] [(127017, .cells 78 (k1 e2))] ?_
    refine A.mid [(1, i6 aJ), (4, .ptr 127004 0), (8, .ptr 127008 0), (10, .ptr 127010 0), (11, lf bL bh), (12, i6 (j1 : Int)), (15, .ptr 127015 0), (16, i6 (j2 : Int)), (17, .ptr 127017 0), (90, .bool ((decide (e2.A = (if e1 < aJ then e1 else aJ))) && (decide (e2.B = (if e1 > aJ then e1 else aJ)))))] [(127004, .cells 44 (k2 t)), (127008, .cells 50 [i6 0, i6 0, .bool false, .aG, .aG]), (127010, .cells 50 [i6 aJ, i6 seq, .bool aK, .own 712701003, lf aS cB]), (712701003, .slice 106 3 (ml bk m_1) 0 false), (127015, .cells 106 [i6 e1, i6 bI.1, i6 m_2]), (127017, .cells 78 (k1 e2))] (fun hk => ?_) ?_
    ·rcases tf (decide (e2.A = (if e1 < aJ then e1 else aJ))) with c3 | c3
     ·exact qS [(5, hix (ix bL (bf hx1))), (9, hto (bE c3)), (15, hix (ix bL (bf hx1))), (19, hto (qu (q := decide (e2.B = (if e1 > aJ then e1 else aJ))) c3))] _ _ hk
     exact qS [(5, hix (ix bL (bf hx1))), (9, hto (bE c3)), (19, hto (rF (q := decide (e2.B = (if e1 > aJ then e1 else aJ))) c3))] _ _ hk
    rcases ai hm with ⟨c4,hm⟩|⟨c4,hm⟩
    ·refine qT c4 ?_
     refine qG [] [17, 90] [] [127015, 127017] [(127015, .cells 106 [i6 e1, i6 bI.1, i6 e2.bY])] ?_
     exact qX e2.bY hm
    refine qF c4 ?_
    refine A.skip ?_
    exact qX m_2 hm
   rintro m_3 hm
   rw [hJ1] at hm
   refine qGs [(1, hto (inc hx2 hb2))] [16] [(16, i6 ((j2 + 1 : Nat) : Int))] ?_
   exact qX m_3 hm
  rintro j2 m_2 hj2 hl2 hm
  rw [hK2] at hm
  refine A.seq ?_
  refine qDs [(3, hto (lnE az t.Links))] [] [(63, .bool (decide ((j2 : Int) < (t.Links.length:Int))))] ?_
  refine qF (ltF hl2) ?_
  refine A.exit ?_
  show ah _ _ _ _ _
  obtain ⟨l_1, h6, hm⟩ := aa hm
  refine qG [(4, hap 127598 (ap bk (bytes := 24) (by decide) h6))] [15, 16, 63] [] [127010, 712701003, 127015] [(127010, .cells 50 [i6 aJ, i6 seq, .bool aK, .own 127598, lf aS cB]), (127598, .slice 106 3 (ml bk l_1) 0 false)] ?_
  show ah _ _ _ _ _
  refine qGs [(1, hto (inc hx1 hb1))] [12] [(12, i6 ((j1 + 1 : Nat) : Int))] ?_
  exact Exists.intro l_1 (And.intro hm (bA.go [.sw 127598 712701003] [] (by kernel_rfl)))
 rintro j1 m_1 hj1 hl1 hm
 rw [hK1] at hm
 refine A.seq ?_
 refine qDs [(2, hto (lnE bL bh))] [] [(40, .bool (decide ((j1 : Int) < (bh.length:Int))))] ?_
 refine qF (ltF hl1) ?_
 refine A.exit ?_
 show ah _ _ _ _ _
 refine A.seq ?_
 obtain ⟨bV, h7, hm⟩ := aa hm
 refine qD [(1, hle [712701003] (eW h7) sX)] [1, 4, 11, 12, 40] [(102, .bool (!bV))] [127004] [] ?_
 rcases ai hm with ⟨c5,hm⟩|⟨c5,hm⟩
 ·refine qT c5 ?_
  refine qD [] [10, 102] [(9, i6 2)] [127010, 712701003] [] ?_
  cases hm
  exact A.ret qE
 refine qF c5 ?_
 refine A.skip ?_
 show ah _ _ _ _ _
 refine qD [] [10, 102] [(9, i6 0)] [127008, 127010] [(127008, .cells 50 [i6 aJ, i6 seq, .bool aK, .own 712701003, lf aS cB])] ?_
 refine A.ret ?_
 obtain rfl := some_inj hm
 exact A.fin W0 [.fz [712701003]] rfl (by kernel_rfl)
end Go.Proofs.YtpmifmdidfgpdaaGreat
