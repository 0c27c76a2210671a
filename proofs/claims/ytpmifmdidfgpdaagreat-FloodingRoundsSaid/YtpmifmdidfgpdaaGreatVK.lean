/- The eC of cr of the program. No condition but bT bB stand in each. -/
import Derived.Test.YtpmifmdidfgpdaaGreatDA
import Derived.Test.YtpmifmdidfgpdaaGreatV9
namespace Go.Proofs.YtpmifmdidfgpdaaGreat
open Go
set_option maxRecDepth 100000
set_option linter.all false
theorem aaE {t : aD} {aJ : Int} {seq : Int} {cB : List bz} {r : aj × Int} (hm : oU t aJ seq cB = some r) : bM Tryz.prog 117 [] [.agg (k2 t), i6 aJ, i6 seq, lf aS cB] (fun a σ' => a = .tup [.agg [i6 r.1.ak, i6 r.1.Seq, .bool r.1.aX, .own 500011700, .own 500011701], i6 r.2] ∧ σ' = [(500011700, .slice 106 3 (ml bk r.1.Links) 0 false), (500011701, .slice 85 3 (ml aS r.1.Claims) 0 false)]) := by
 refine aT Tryz.func117 rfl rfl ?_
 unfold oU at hm
 refine qS [(0, .al 117004), (1, .al 117008)] [(1, i6 aJ), (2, i6 seq), (3, lf aS cB), (4, .ptr 117004 0), (8, .ptr 117008 0)] [(117004, .cells 44 (k2 t)), (117008, .cells 50 [i6 0, i6 0, .bool false, .aG, .aG])] ?_
 refine A.seq ?_
 refine A.block ?_
 obtain ⟨af, h1, hm⟩ := aa hm
 refine qDs [(1, hro (iH h1) ace)] [] [(13, .bool (!decide (af = (0:Int))))] ?_
 rcases ai hm with ⟨c1,hm⟩|⟨c1,hm⟩
 ·refine qT c1 ?_
  refine qD [] [1, 2, 3, 4, 13] [(9, i6 1)] [117004] [] ?_
  refine A.ret ?_
  obtain rfl := some_inj hm
  exact A.fin W0 [.ac 117008 500011700 106 3 3, .ac 117008 500011701 85 3 4] rfl (by kernel_rfl)
 refine qF c1 ?_
 obtain ⟨ay, h2, hm⟩ := aa hm
 refine qDs [(2, hro (gw h2) vQ)] [13] [(18, .bool (!ay))] ?_
 rcases ai hm with ⟨c2,hm⟩|⟨c2,hm⟩
 ·refine qT c2 ?_
  refine qD [] [1, 2, 3, 4, 18] [(9, i6 4)] [117004] [] ?_
  refine A.ret ?_
  obtain rfl := some_inj hm
  exact A.fin W0 [.ac 117008 500011700 106 3 3, .ac 117008 500011701 85 3 4] rfl (by kernel_rfl)
 refine qF c2 ?_
 refine A.skip ?_
 show ah _ _ _ _ _
 obtain ⟨aK, h3, hm⟩ := aa hm
 obtain ⟨l_1, h4, hm⟩ := aa hm
 refine qD [(4, hro (vh h3) atL), (6, hap 117530 (ap aS (bytes := 24) (by decide) h4)), (8, .al 117010)] [2, 3, 18] [(10, .ptr 117010 0)] [] [(117530, .slice 85 3 (ml aS l_1) 0 false), (117010, .cells 50 [i6 aJ, i6 seq, .bool aK, .aG, .own 117530])] ?_
 refine A.seq ?_
 refine qD [(2, hto (lnE az t.Links))] [4] [(33, lf az t.Links), (34, i6 (t.Links.length:Int)), (35, i6 0)] [117004] [] ?_
 refine A.block ?_
 refine A.bS 33 rfl fun hb1 => ?_
 obtain ⟨B1, K1, hB1, hK1, hm⟩ := bt hm
 refine A.lpI (l := t.Links) (j0 := 0) (B := B1) (K := K1) hm (fun j1 => fun m_1 => [(1, i6 aJ), (8, .ptr 117008 0), (10, .ptr 117010 0), (33, lf az t.Links), (34, i6 (t.Links.length:Int)), (35, i6 (j1 : Int))]) (fun j1 => fun m_1 => [(117008, .cells 50 [i6 0, i6 0, .bool false, .aG, .aG]), (117530, .slice 85 3 (ml aS l_1) 0 false), (117010, .cells 50 [i6 aJ, i6 seq, .bool aK, .own 711701003, .own 117530]), (711701003, .slice 106 3 (ml bk m_1) 0 false)]) ?_ ?_ ?_
 ·exact bA.go [.ac 117010 711701003 106 3 3] [] (by kernel_rfl)
 ·rintro j1 e1 Z1 m_1 hj1 hx1 hm
  rw [hB1] at hm
  refine qDs [] [] [(36, .bool (decide ((j1 : Int) < (t.Links.length:Int))))] ?_
  refine A.seq ?_
  refine qT (ltT hx1) ?_
  refine A.skip ?_
  show ah _ _ _ _ _
  obtain ⟨J1, hJ1, hm⟩ := bJ hm
  refine A.J (J := J1) (r := r) (fun m_2 => [(1, i6 aJ), (8, .ptr 117008 0), (10, .ptr 117010 0), (33, lf az t.Links), (34, i6 (t.Links.length:Int)), (35, i6 (j1 : Int))]) (fun m_2 => [(117008, .cells 50 [i6 0, i6 0, .bool false, .aG, .aG]), (117530, .slice 85 3 (ml aS l_1) 0 false), (117010, .cells 50 [i6 aJ, i6 seq, .bool aK, .own 711701003, .own 117530]), (711701003, .slice 106 3 (ml bk m_2) 0 false)]) ?_ ?_
  ·refine A.block ?_
   refine qD [(0, hix (ix az (bf hx1))), (2, .al 117012)] [36] [(12, .ptr 117012 0)] [] [(117012, .cells 78 (k1 e1))] ?_
   refine qDs [] [] [(39, i6 aJ)] ?_
   refine A.block ?_
   refine qDs [] [] [(40, .bool (decide (aJ = e1.A)))] ?_
   rcases ai hm with ⟨c3,hm⟩|⟨c3,hm⟩
   ·refine qT c3 ?_
    obtain ⟨l_2, h5, hm⟩ := aa hm
    refine qG [(10, hap 117554 (ap bk (bytes := 24) (by decide) h5))] [12, 39, 40] [] [117010, 711701003, 117012] [(117010, .cells 50 [i6 aJ, i6 seq, .bool aK, .own 117554, .own 117530]), (117554, .slice 106 3 (ml bk l_2) 0 false)] ?_
    exact Exists.intro l_2 (And.intro hm (bA.go [.sw 117554 711701003] [] (by kernel_rfl)))
   refine qF c3 ?_
   refine qDs [] [39, 40] [(56, .bool (decide (aJ = e1.B)))] ?_
   rcases ai hm with ⟨c4,hm⟩|⟨c4,hm⟩
   ·refine qT c4 ?_
    obtain ⟨l_3, h6, hm⟩ := aa hm
    refine qG [(10, hap 117570 (ap bk (bytes := 24) (by decide) h6))] [12, 56] [] [117010, 711701003, 117012] [(117010, .cells 50 [i6 aJ, i6 seq, .bool aK, .own 117570, .own 117530]), (117570, .slice 106 3 (ml bk l_3) 0 false)] ?_
    exact Exists.intro l_3 (And.intro hm (bA.go [.sw 117570 711701003] [] (by kernel_rfl)))
   refine qF c4 ?_
   refine A.skip ?_
   exact qX m_1 hm
  rintro m_2 hm
  rw [hJ1] at hm
  refine qGs [(0, hto (inc hx1 hb1))] [35] [(35, i6 ((j1 + 1 : Nat) : Int))] ?_
  exact qX m_2 hm
 rintro j1 m_1 hj1 hl1 hm
 rw [hK1] at hm
 refine qDs [] [] [(36, .bool (decide ((j1 : Int) < (t.Links.length:Int))))] ?_
 refine A.seq ?_
 refine qF (ltF hl1) ?_
 refine A.exit ?_
 show ah _ _ _ _ _
 refine A.seq ?_
 obtain ⟨bh, h7, hm⟩ := aa hm
 refine qDs [(1, hle [711701003, 117530] (iu h7) aaw)] [1, 33, 34, 35, 36] [(75, .bool (!bh))] ?_
 rcases ai hm with ⟨c5,hm⟩|⟨c5,hm⟩
 ·refine qT c5 ?_
  refine qD [] [10, 75] [(9, i6 2)] [117530, 117010, 711701003] [] ?_
  refine A.ret ?_
  obtain rfl := some_inj hm
  exact A.fin W0 [.ac 117008 500011700 106 3 3, .ac 117008 500011701 85 3 4] rfl (by kernel_rfl)
 refine qF c5 ?_
 refine A.skip ?_
 show ah _ _ _ _ _
 refine qD [] [10, 75] [(9, i6 0)] [117008, 117010] [(117008, .cells 50 [i6 aJ, i6 seq, .bool aK, .own 711701003, .own 117530])] ?_
 refine A.ret ?_
 obtain rfl := some_inj hm
 exact A.fin W0 [.sw 711701003 500011700, .sw 117530 500011701] rfl (by kernel_rfl)
end Go.Proofs.YtpmifmdidfgpdaaGreat
