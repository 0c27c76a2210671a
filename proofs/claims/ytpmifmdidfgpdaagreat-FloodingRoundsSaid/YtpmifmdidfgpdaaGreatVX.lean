/- The eC of cr of the program. No condition but bT bB stand in each. -/
import Derived.Test.YtpmifmdidfgpdaaGreatDA
import Derived.Test.YtpmifmdidfgpdaaGreatV8
import Derived.Test.YtpmifmdidfgpdaaGreatVN
namespace Go.Proofs.YtpmifmdidfgpdaaGreat
open Go
set_option maxRecDepth 100000
set_option linter.all false
theorem zU {d : aF} {a : aj} {r : aF} (hm : oo d a = some r) : RO Tryz.prog 160 [] [.agg (k7 d), .agg (k6 a)] (.agg (k7 r)) := by
 refine aT Tryz.func160 rfl rfl ?_
 unfold oo at hm
 refine qS [(0, .al 160002), (1, .al 160003), (2, .al 160004)] [(2, .ptr 160002 0), (3, .ptr 160003 0), (4, .ptr 160004 0)] [(160002, .cells 60 (k7 d)), (160003, .cells 50 (k6 a)), (160004, .cells 60 [.aG])] ?_
 refine qD [(0, .al 160005)] [] [(5, .ptr 160005 0)] [] [(160005, .cells 60 [.aG])] ?_
 refine qDs [] [] [(6, .bool false)] ?_
 refine A.seq ?_
 refine qDs [] [] [(7, i6 0)] ?_
 refine A.block ?_
 refine A.bC 2 0 rfl rfl rfl fun hb1 => ?_
 obtain ⟨B1, K1, hB1, hK1, hm⟩ := bt hm
 refine A.lpI (l := d.aq) (j0 := 0) (B := B1) (K := K1) hm (fun j1 => fun sg => match sg with | (lE, m_1) => [(2, .ptr 160002 0), (3, .ptr 160003 0), (4, .ptr 160004 0), (5, .ptr 160005 0), (6, .bool lE), (7, i6 (j1 : Int))]) (fun j1 => fun sg => match sg with | (lE, m_1) => [(160002, .cells 60 (k7 d)), (160003, .cells 50 (k6 a)), (160004, .cells 60 [.aG]), (160005, .cells 60 [.own 716000500]), (716000500, .slice 50 5 (ml aH m_1) 0 false)]) ?_ ?_ ?_
 ·exact bA.go [.ac 160005 716000500 50 5 0] [] (by kernel_rfl)
 ·rintro j1 e1 Z1 ⟨lE, m_1⟩ hj1 hx1 hm
  rw [hB1] at hm
  refine A.seq ?_
  refine qDs [(3, hto (lnE aH d.aq))] [] [(12, .bool (decide ((j1 : Int) < (d.aq.length:Int))))] ?_
  refine qT (ltT hx1) ?_
  refine A.skip ?_
  show ah _ _ _ _ _
  obtain ⟨J1, hJ1, hm⟩ := bJ hm
  refine A.J (J := J1) (r := r) (fun sg => match sg with | (vn, m_2) => [(2, .ptr 160002 0), (3, .ptr 160003 0), (4, .ptr 160004 0), (5, .ptr 160005 0), (6, .bool vn), (7, i6 (j1 : Int))]) (fun sg => match sg with | (vn, m_2) => [(160002, .cells 60 (k7 d)), (160003, .cells 50 (k6 a)), (160004, .cells 60 [.aG]), (160005, .cells 60 [.own 716000500]), (716000500, .slice 50 5 (ml aH m_2) 0 false)]) ?_ ?_
  ·refine A.block ?_
   obtain ⟨J2, hJ2, hm⟩ := bJ hm
   refine A.J (J := J2) (r := r) (fun sg => match sg with | (sr, m_3) => [(2, .ptr 160002 0), (3, .ptr 160003 0), (4, .ptr 160004 0), (5, .ptr 160005 0), (6, .bool sr), (7, i6 (j1 : Int))]) (fun sg => match sg with | (sr, m_3) => [(160002, .cells 60 (k7 d)), (160003, .cells 50 (k6 a)), (160004, .cells 60 [.aG]), (160005, .cells 60 [.own 716000500]), (716000500, .slice 50 5 (ml aH m_3) 0 false)]) ?_ ?_
   ·refine A.mid [(2, .ptr 160002 0), (3, .ptr 160003 0), (4, .ptr 160004 0), (5, .ptr 160005 0), (6, .bool lE), (7, i6 (j1 : Int)), (27, .bool ((!lE) && (decide (a.ak ≤ e1.ak))))] [(160002, .cells 60 (k7 d)), (160003, .cells 50 (k6 a)), (160004, .cells 60 [.aG]), (160005, .cells 60 [.own 716000500]), (716000500, .slice 50 5 (ml aH m_1) 0 false)] (fun hk => ?_) ?_
    ·rcases tf (!lE) with c1 | c1
     ·exact qS [(2, hto (bE c1)), (6, hix (ix aH (bf hx1))), (12, hto (qu (q := decide (a.ak ≤ e1.ak)) c1))] _ _ hk
     exact qS [(2, hto (bE c1)), (12, hto (rF (q := decide (a.ak ≤ e1.ak)) c1))] _ _ hk
    rcases ai hm with ⟨c2,hm⟩|⟨c2,hm⟩
    ·refine qT c2 ?_
     obtain ⟨l_1, h1, hm⟩ := aa hm
     refine qD [(4, hap 160532 (ap aH (bytes := 72) (by decide) h1))] [6, 27] [] [160005, 716000500] [(160005, .cells 60 [.own 160532]), (160532, .slice 50 5 (ml aH l_1) 0 false)] ?_
     refine qGs [] [] [(6, .bool true)] ?_
     exact Exists.intro (true, l_1) (And.intro hm (bA.go [.sw 160532 716000500] [] (by kernel_rfl)))
    refine qF c2 ?_
    refine A.skip ?_
    exact qX (lE, m_1) hm
   rintro ⟨sr, m_3⟩ hm
   rw [hJ2] at hm
   refine qDs [(3, hix (ix aH (bf hx1)))] [] [(42, .bool (!decide (e1.ak = a.ak)))] ?_
   rcases ai hm with ⟨c3,hm⟩|⟨c3,hm⟩
   ·refine qT c3 ?_
    obtain ⟨l_2, h2, hm⟩ := aa hm
    refine qG [(5, hix (ix aH (bf hx1))), (8, hap 160551 (ap aH (bytes := 72) (by decide) h2))] [42] [] [160005, 716000500] [(160005, .cells 60 [.own 160551]), (160551, .slice 50 5 (ml aH l_2) 0 false)] ?_
    exact Exists.intro (sr, l_2) (And.intro hm (bA.go [.sw 160551 716000500] [] (by kernel_rfl)))
   refine qF c3 ?_
   refine A.skip ?_
   exact qX (sr, m_3) hm
  rintro ⟨vn, m_2⟩ hm
  rw [hJ1] at hm
  refine qGs [(1, hto (inc hx1 hb1))] [7] [(7, i6 ((j1 + 1 : Nat) : Int))] ?_
  exact qX (vn, m_2) hm
 rintro j1 ⟨lE, m_1⟩ hj1 hl1 hm
 rw [hK1] at hm
 refine A.seq ?_
 refine qDs [(3, hto (lnE aH d.aq))] [] [(12, .bool (decide ((j1 : Int) < (d.aq.length:Int))))] ?_
 refine qF (ltF hl1) ?_
 refine A.exit ?_
 show ah _ _ _ _ _
 obtain ⟨J3, hJ3, hm⟩ := bJ hm
 refine A.J (J := J3) (r := r) (fun m_4 => [(4, .ptr 160004 0), (5, .ptr 160005 0)]) (fun m_4 => [(160004, .cells 60 [.aG]), (160005, .cells 60 [.own 716000500]), (716000500, .slice 50 5 (ml aH m_4) 0 false)]) ?_ ?_
 ·refine qD [] [2, 6, 7, 12] [(54, .bool (!lE))] [160002] [] ?_
  rcases ai hm with ⟨c4,hm⟩|⟨c4,hm⟩
  ·refine qT c4 ?_
   obtain ⟨l_3, h3, hm⟩ := aa hm
   refine qG [(4, hap 160559 (ap aH (bytes := 72) (by decide) h3))] [3, 54] [] [160003, 160005, 716000500] [(160005, .cells 60 [.own 160559]), (160559, .slice 50 5 (ml aH l_3) 0 false)] ?_
   exact Exists.intro l_3 (And.intro hm (bA.go [.sw 160559 716000500] [] (by kernel_rfl)))
  refine qF c4 ?_
  refine A.skip ?_
  exact qX m_1 hm
 rintro m_4 hm
 rw [hJ3] at hm
 refine qD [] [5] [] [160004, 160005] [(160004, .cells 60 [.own 716000500])] ?_
 refine A.ret ?_
 obtain rfl := some_inj hm
 exact A.fin W0 [.fz [716000500]] rfl (by kernel_rfl)
theorem vo {d : aF} {a : aj} {r : aF × Bool} (hm : nH d a = some r) : RO Tryz.prog 129 [] [.agg (k7 d), .agg (k6 a)] (.tup [.agg (k7 r.1), .bool r.2]) := by
 refine aT Tryz.func129 rfl rfl ?_
 unfold nH at hm
 refine qS [(0, .al 129002), (1, .al 129003), (2, .al 129004)] [(2, .ptr 129002 0), (3, .ptr 129003 0), (4, .ptr 129004 0)] [(129002, .cells 60 (k7 d)), (129003, .cells 50 (k6 a)), (129004, .cells 60 [.aG])] ?_
 refine A.seq ?_
 obtain ⟨J1, hJ1, hm⟩ := bJ hm
 refine A.J (J := J1) (r := r) (fun v_1 => [(2, .ptr 129002 0), (3, .ptr 129003 0), (4, .ptr 129004 0), (15, .bool v_1)]) (fun v_1 => [(129002, .cells 60 (k7 d)), (129003, .cells 50 (k6 a)), (129004, .cells 60 [.aG])]) ?_ ?_
 ·obtain ⟨af, h1, hm⟩ := aa hm
  rcases ai hm with ⟨c1,hm⟩|⟨c1,hm⟩
  ·refine qGs [(1, hro (gK h1) y7), (3, hto (bE c1))] [] [(15, .bool true)] ?_
   exact qX true hm
  obtain ⟨ay, h2, hm⟩ := aa hm
  refine qGs [(1, hro (gK h1) y7), (3, hto (bE c1)), (5, hro (eW h2) sX)] [] [(15, .bool (!ay))] ?_
  exact qX (!ay) hm
 rintro v_1 hm
 rw [hJ1] at hm
 rcases ai hm with ⟨c2,hm⟩|⟨c2,hm⟩
 ·refine qT c2 ?_
  refine qS [] [(4, .ptr 129004 0), (5, .bool false)] [(129004, .cells 60 (k7 d))] ?_
  cases hm
  exact A.ret qE
 refine qF c2 ?_
 refine A.skip ?_
 show ah _ _ _ _ _
 obtain ⟨aK, h3, hm⟩ := aa hm
 refine qD [(3, hro (uE h3) aps), (7, .al 129006)] [15] [(6, .ptr 129006 0), (7, .bool aK.2)] [] [(129006, .cells 50 (k6 aK.1))] ?_
 refine A.seq ?_
 obtain ⟨J2, hJ2, hm⟩ := bJ hm
 refine A.J (J := J2) (r := r) (fun v_2 => [(2, .ptr 129002 0), (3, .ptr 129003 0), (4, .ptr 129004 0), (30, .bool v_2)]) (fun v_2 => [(129002, .cells 60 (k7 d)), (129003, .cells 50 (k6 a)), (129004, .cells 60 [.aG])]) ?_ ?_
 ·rcases ai hm with ⟨c3,hm⟩|⟨c3,hm⟩
  ·obtain ⟨bh, h4, hm⟩ := aa hm
   refine qG [(1, hto (bE c3)), (4, hro (zi h4) atO)] [6, 7] [(30, .bool (!bh))] [129006] [] ?_
   exact qX (!bh) hm
  refine qG [(1, hto (bE c3))] [6, 7] [(30, .bool false)] [129006] [] ?_
  exact qX false hm
 rintro v_2 hm
 rw [hJ2] at hm
 rcases ai hm with ⟨c4,hm⟩|⟨c4,hm⟩
 ·refine qT c4 ?_
  refine qS [] [(4, .ptr 129004 0), (5, .bool false)] [(129004, .cells 60 (k7 d))] ?_
  cases hm
  exact A.ret qE
 refine qF c4 ?_
 refine A.skip ?_
 show ah _ _ _ _ _
 obtain ⟨bI, h5, hm⟩ := aa hm
 refine qS [(2, hro (zU h5) atP)] [(4, .ptr 129004 0), (5, .bool true)] [(129004, .cells 60 (k7 bI))] ?_
 cases hm
 exact A.ret qE
theorem zl {a : aF} {b : aF} {r : aF × Int} (hm : nA a b = some r) : RO Tryz.prog 142 [] [.agg (k7 a), .agg (k7 b)] (.tup [.agg (k7 r.1), i6 r.2]) := by
 refine aT Tryz.func142 rfl rfl ?_
 unfold nA at hm
 refine qS [(0, .al 142002), (1, .al 142003), (2, .al 142004)] [(2, .ptr 142002 0), (3, .ptr 142003 0), (4, .ptr 142004 0)] [(142002, .cells 60 (k7 a)), (142003, .cells 60 (k7 b)), (142004, .cells 60 [.aG])] ?_
 refine A.seq ?_
 obtain ⟨J1, hJ1, hm⟩ := bJ hm
 refine A.J (J := J1) (r := r) (fun v_1 => [(2, .ptr 142002 0), (3, .ptr 142003 0), (4, .ptr 142004 0), (14, .bool v_1)]) (fun v_1 => [(142002, .cells 60 (k7 a)), (142003, .cells 60 (k7 b)), (142004, .cells 60 [.aG])]) ?_ ?_
 ·obtain ⟨af, h1, hm⟩ := aa hm
  rcases ai hm with ⟨c1,hm⟩|⟨c1,hm⟩
  ·refine qGs [(1, hro (gK h1) y7), (3, hto (bE c1))] [] [(14, .bool true)] ?_
   exact qX true hm
  obtain ⟨ay, h2, hm⟩ := aa hm
  refine qGs [(1, hro (gK h1) y7), (3, hto (bE c1)), (5, hro (gK h2) y7)] [] [(14, .bool (!decide (ay = (0:Int))))] ?_
  exact qX (!decide (ay = (0:Int))) hm
 rintro v_1 hm
 rw [hJ1] at hm
 rcases ai hm with ⟨c2,hm⟩|⟨c2,hm⟩
 ·refine qT c2 ?_
  refine qD [] [2, 3, 14] [(5, i6 1)] [142002, 142003] [] ?_
  cases hm
  exact A.ret qE
 refine qF c2 ?_
 refine A.skip ?_
 show ah _ _ _ _ _
 refine A.seq ?_
 refine qDs [] [14] [(6, i6 0)] ?_
 refine A.block ?_
 refine A.bC 3 0 rfl rfl rfl fun hb1 => ?_
 obtain ⟨B1, K1, hB1, hK1, hm⟩ := bt hm
 refine A.lpI (l := b.aq) (j0 := 0) (B := B1) (K := K1) hm (fun j1 => fun m_1 => [(2, .ptr 142002 0), (3, .ptr 142003 0), (4, .ptr 142004 0), (6, i6 (j1 : Int))]) (fun j1 => fun m_1 => [(142002, .cells 60 [lf aH m_1]), (142003, .cells 60 (k7 b)), (142004, .cells 60 [.aG])]) ?_ ?_ ?_
 ·exact qW
 ·rintro j1 e1 Z1 m_1 hj1 hx1 hm
  rw [hB1] at hm
  refine A.seq ?_
  refine qDs [(3, hto (lnE aH b.aq))] [] [(20, .bool (decide ((j1 : Int) < (b.aq.length:Int))))] ?_
  refine qT (ltT hx1) ?_
  refine A.skip ?_
  show ah _ _ _ _ _
  refine A.seq ?_
  refine A.block ?_
  obtain ⟨aK, h3, hm⟩ := aa hm
  refine qG [(4, hix (ix aH (bf hx1))), (6, hro (vo h3) ajk)] [20] [] [142002] [(142002, .cells 60 (k7 aK.1))] ?_
  show ah _ _ _ _ _
  refine qGs [(1, hto (inc hx1 hb1))] [6] [(6, i6 ((j1 + 1 : Nat) : Int))] ?_
  exact qX aK.1.aq hm
 rintro j1 m_1 hj1 hl1 hm
 rw [hK1] at hm
 refine A.seq ?_
 refine qDs [(3, hto (lnE aH b.aq))] [] [(20, .bool (decide ((j1 : Int) < (b.aq.length:Int))))] ?_
 refine qF (ltF hl1) ?_
 refine A.exit ?_
 show ah _ _ _ _ _
 refine qS [] [(4, .ptr 142004 0), (5, i6 0)] [(142004, .cells 60 [lf aH m_1])] ?_
 cases hm
 exact A.ret qE
end Go.Proofs.YtpmifmdidfgpdaaGreat
