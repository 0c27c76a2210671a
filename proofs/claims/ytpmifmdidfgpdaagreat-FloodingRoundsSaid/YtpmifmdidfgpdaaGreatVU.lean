/- The eC of cr of the program. No condition but bT bB stand in each. -/
import Derived.Test.YtpmifmdidfgpdaaGreatDA
import Derived.Test.YtpmifmdidfgpdaaGreatVE
import Derived.Test.YtpmifmdidfgpdaaGreatIN
namespace Go.Proofs.YtpmifmdidfgpdaaGreat
open Go
set_option maxRecDepth 100000
set_option linter.all false
theorem wJ {xa0 : aj} {aJ : Int} {r : Int} (hm : kg xa0 aJ = some r) : RO Tryz.prog 166 [] [.agg (k6 xa0), i6 aJ] (i6 r) := by
 refine aT Tryz.func166 rfl rfl ?_
 unfold kg at hm
 refine qS [(0, .al 166002)] [(1, i6 aJ), (2, .ptr 166002 0)] [(166002, .cells 50 (k6 xa0))] ?_
 obtain ⟨af, h1, hm⟩ := aa hm
 refine qS [(3, hro (gh h1) xZ)] [(4, i6 af)] [] ?_
 cases hm
 exact A.ret qE
theorem rq {d : aF} {r : aF} (hm : iS d = some r) : bM Tryz.prog 157 [] [.agg (k7 d)] (fun a σ' => a = .agg [.own 500015700] ∧ σ' = [(500015700, .slice 50 5 (ml aH r.aq) 0 false)]) := by
 refine aT Tryz.func157 rfl rfl ?_
 unfold iS at hm
 refine qS [(0, .al 157001), (1, .al 157002)] [(1, .ptr 157001 0), (2, .ptr 157002 0)] [(157001, .cells 60 (k7 d)), (157002, .cells 60 [.aG])] ?_
 refine qD [(0, .al 157003)] [] [(3, .ptr 157003 0)] [] [(157003, .cells 60 [.aG])] ?_
 refine A.seq ?_
 refine qD [(2, hto (lnE aH d.aq))] [1] [(7, lf aH d.aq), (8, i6 (d.aq.length:Int)), (9, i6 0)] [157001] [] ?_
 refine A.block ?_
 refine A.bS 7 rfl fun hb1 => ?_
 obtain ⟨B1, K1, hB1, hK1, hm⟩ := bt hm
 refine A.lpI (l := d.aq) (j0 := 0) (B := B1) (K := K1) hm (fun j1 => fun m_1 => [(2, .ptr 157002 0), (3, .ptr 157003 0), (7, lf aH d.aq), (8, i6 (d.aq.length:Int)), (9, i6 (j1 : Int))]) (fun j1 => fun m_1 => [(157002, .cells 60 [.aG]), (157003, .cells 60 [.own 715700300]), (715700300, .slice 50 5 (ml aH m_1) 0 false)]) ?_ ?_ ?_
 ·exact bA.go [.ac 157003 715700300 50 5 0] [] (by kernel_rfl)
 ·rintro j1 e1 Z1 m_1 hj1 hx1 hm
  rw [hB1] at hm
  refine qDs [] [] [(10, .bool (decide ((j1 : Int) < (d.aq.length:Int))))] ?_
  refine A.seq ?_
  refine qT (ltT hx1) ?_
  refine A.skip ?_
  show ah _ _ _ _ _
  refine A.seq ?_
  refine A.block ?_
  refine qD [(0, hix (ix aH (bf hx1))), (2, .al 157005)] [10] [(5, .ptr 157005 0)] [] [(157005, .cells 50 (k6 e1))] ?_
  obtain ⟨af, h1, hm⟩ := aa hm
  obtain ⟨l_1, h2, hm⟩ := aa hm
  refine qG [(3, hro (jS h1) abz), (5, hap 157518 (ap aH (bytes := 72) (by decide) h2))] [5] [] [157003, 715700300, 157005] [(157003, .cells 60 [.own 157518]), (157518, .slice 50 5 (ml aH l_1) 0 false)] ?_
  show ah _ _ _ _ _
  refine qGs [(0, hto (inc hx1 hb1))] [9] [(9, i6 ((j1 + 1 : Nat) : Int))] ?_
  exact Exists.intro l_1 (And.intro hm (bA.go [.sw 157518 715700300] [] (by kernel_rfl)))
 rintro j1 m_1 hj1 hl1 hm
 rw [hK1] at hm
 refine qDs [] [] [(10, .bool (decide ((j1 : Int) < (d.aq.length:Int))))] ?_
 refine A.seq ?_
 refine qF (ltF hl1) ?_
 refine A.exit ?_
 show ah _ _ _ _ _
 refine qD [] [3, 7, 8, 9, 10] [] [157002, 157003] [(157002, .cells 60 [.own 715700300])] ?_
 refine A.ret ?_
 obtain rfl := some_inj hm
 exact A.fin W0 [.sw 715700300 500015700] rfl (by kernel_rfl)
theorem sR {d : aF} {a : aj} {r : Bool × aF} (hm : jZ d a = some r) : bM Tryz.prog 158 [(505015800, .slice 50 5 (ml aH d.aq) 0 false), (900000060, .cells 60 [.own 505015800])] [.ptr 900000060 0, .agg (k6 a)] (fun a σ' => a = .bool r.1 ∧ σ' = [(900000060, .cells 60 [.own 505015801]), (505015801, .slice 50 5 (ml aH r.2.aq) 0 false)]) := by
 refine aT Tryz.func158 rfl rfl ?_
 unfold jZ at hm
 refine qS [(0, .al 158003)] [(0, .ptr 900000060 0), (3, .ptr 158003 0)] [(505015800, .slice 50 5 (ml aH d.aq) 0 false), (900000060, .cells 60 [.own 505015800]), (158003, .cells 50 (k6 a))] ?_
 obtain ⟨af, h1, hm⟩ := aa hm
 refine qDs [(6, hle [505015800] (jc (jb := 166) (kr := []) (pq := atV) (pz := fun _ _ _ h => wJ h) h1) atU)] [] [(5, i6 af.1), (6, .bool af.2)] ?_
 obtain ⟨J1, hJ1, hm⟩ := bJ hm
 refine A.J (J := J1) (r := r) (fun m_1 => []) (fun m_1 => [(900000060, .cells 60 [.own 700006000]), (700006000, .slice 50 5 (ml aH m_1) 0 false)]) ?_ ?_
 ·refine A.block ?_
  refine qDs [] [6] [(17, .bool (!af.2))] ?_
  rcases ai hm with ⟨c1,hm⟩|⟨c1,hm⟩
  ·refine qT c1 ?_
   obtain ⟨ay, h2, hm⟩ := aa hm
   obtain ⟨l_1, h3, hm⟩ := aa hm
   refine qR [(7, hro (jS h2) abz), (8, .al 158028), (9, hdc [520158001] (ae0 (d := 505015800) (d2 := 158028) (D := 520158001) h3 (by decide) (by decide)) atW)] [] [(900000060, .cells 60 [.own 520158001]), (520158001, .slice 50 5 (ml aH l_1) 0 false)] ?_
   exact Exists.intro l_1 (And.intro hm (bA.go [.sw 520158001 700006000] [] (by kernel_rfl)))
  refine qF c1 ?_
  obtain ⟨e_1, h4, hm⟩ := aa hm
  obtain ⟨aK, h5, hm⟩ := aa hm
  refine qDs [(6, hix (ix aH h4)), (7, hlo 505015800 0 (ix aH h4)), (8, hro (yh h5) atX)] [17] [(32, .bool aK)] ?_
  rcases ai hm with ⟨c2,hm⟩|⟨c2,hm⟩
  ·refine qT c2 ?_
   obtain ⟨bh, h6, hm⟩ := aa hm
   obtain ⟨l_2, h7, hm⟩ := aa hm
   refine qG [(6, hro (jS h6) abz), (7, hix (ix aH h4)), (8, hso 505015800 (st aH (off := 0) (ca := (k6 bh)) h4 h7 rfl) (iM h4).1.1)] [0, 3, 5, 32] [] [505015800, 158003] [(505015800, .slice 50 5 (ml aH l_2) 0 false)] ?_
   exact Exists.intro l_2 (And.intro hm (bA.go [.rn 505015800 700006000] [] (by kernel_rfl)))
  refine qF c2 ?_
  refine qD [] [0, 3, 5, 32] [(4, .bool false)] [158003] [] ?_
  refine A.ret ?_
  obtain rfl := some_inj hm
  exact A.fin W0 [.rn 505015800 505015801] rfl (by kernel_rfl)
 rintro m_1 hm
 rw [hJ1] at hm
 refine qDs [] [] [(4, .bool true)] ?_
 refine A.ret ?_
 obtain rfl := some_inj hm
 exact A.fin W0 [.sw 700006000 505015801] rfl (by kernel_rfl)
theorem yj {d : aF} {a : aj} {r : aF × Bool} (hm : mB d a = some r) : RO Tryz.prog 128 [] [.agg (k7 d), .agg (k6 a)] (.tup [.agg (k7 r.1), .bool r.2]) := by
 refine aT Tryz.func128 rfl rfl ?_
 unfold mB at hm
 refine qS [(0, .al 128002), (1, .al 128003), (2, .al 128004)] [(2, .ptr 128002 0), (3, .ptr 128003 0), (4, .ptr 128004 0)] [(128002, .cells 60 (k7 d)), (128003, .cells 50 (k6 a)), (128004, .cells 60 [.aG])] ?_
 obtain ⟨af, h1, hm⟩ := aa hm
 refine qD [(1, hdc [500015700] (rq h1) ajr), (2, .al 128006)] [] [(6, .ptr 128006 0)] [] [(500015700, .slice 50 5 (ml aH af.aq) 0 false), (128006, .cells 60 [.own 500015700])] ?_
 refine A.seq ?_
 obtain ⟨J1, hJ1, hm⟩ := bJ hm
 refine A.J (J := J1) (r := r) (fun v_1 => [(3, .ptr 128003 0), (4, .ptr 128004 0), (6, .ptr 128006 0), (17, .bool v_1)]) (fun v_1 => [(128003, .cells 50 (k6 a)), (128004, .cells 60 [.aG]), (500015700, .slice 50 5 (ml aH af.aq) 0 false), (128006, .cells 60 [.own 500015700])]) ?_ ?_
 ·obtain ⟨ay, h2, hm⟩ := aa hm
  rcases ai hm with ⟨c1,hm⟩|⟨c1,hm⟩
  ·refine qG [(1, hro (fE h2) y6), (3, hto (bE c1))] [2] [(17, .bool true)] [128002] [] ?_
   exact qX true hm
  obtain ⟨aK, h3, hm⟩ := aa hm
  refine qG [(1, hro (fE h2) y6), (3, hto (bE c1)), (5, hro (iu h3) aaw)] [2] [(17, .bool (!aK))] [128002] [] ?_
  exact qX (!aK) hm
 rintro v_1 hm
 rw [hJ1] at hm
 rcases ai hm with ⟨c2,hm⟩|⟨c2,hm⟩
 ·refine qT c2 ?_
  refine qD [] [3, 6, 17] [(5, .bool false)] [128003, 128004, 128006] [(128004, .cells 60 [.own 500015700])] ?_
  refine A.ret ?_
  obtain rfl := some_inj hm
  exact A.fin W0 [.fz [500015700]] rfl (by kernel_rfl)
 refine qF c2 ?_
 refine A.skip ?_
 show ah _ _ _ _ _
 obtain ⟨bh, h4, hm⟩ := aa hm
 refine qD [(1, hdc [520128001] (SC.at [(505015800, 500015700), (900000060, 128006), (505015801, 520128001)] (sR h4)) ajs)] [3, 17] [(7, .bool bh.1)] [128003, 500015700, 128006] [(128006, .cells 60 [.own 520128001]), (520128001, .slice 50 5 (ml aH bh.2.aq) 0 false)] ?_
 refine qD [] [6, 7] [(5, .bool bh.1)] [128004, 128006] [(128004, .cells 60 [.own 520128001])] ?_
 refine A.ret ?_
 obtain rfl := some_inj hm
 exact A.fin W0 [.fz [520128001]] rfl (by kernel_rfl)
theorem wK {a : aF} {b : aF} {r : aF × Int} (hm : ki a b = some r) : RO Tryz.prog 141 [] [.agg (k7 a), .agg (k7 b)] (.tup [.agg (k7 r.1), i6 r.2]) := by
 refine aT Tryz.func141 rfl rfl ?_
 unfold ki at hm
 refine qS [(0, .al 141002), (1, .al 141003), (2, .al 141004)] [(2, .ptr 141002 0), (3, .ptr 141003 0), (4, .ptr 141004 0)] [(141002, .cells 60 (k7 a)), (141003, .cells 60 (k7 b)), (141004, .cells 60 [.aG])] ?_
 refine A.seq ?_
 obtain ⟨J1, hJ1, hm⟩ := bJ hm
 refine A.J (J := J1) (r := r) (fun v_1 => [(2, .ptr 141002 0), (3, .ptr 141003 0), (4, .ptr 141004 0), (16, .bool v_1)]) (fun v_1 => [(141002, .cells 60 (k7 a)), (141003, .cells 60 (k7 b)), (141004, .cells 60 [.aG])]) ?_ ?_
 ·obtain ⟨af, h1, hm⟩ := aa hm
  rcases ai hm with ⟨c1,hm⟩|⟨c1,hm⟩
  ·refine qGs [(1, hro (fE h1) y6), (3, hto (bE c1))] [] [(16, .bool true)] ?_
   exact qX true hm
  obtain ⟨ay, h2, hm⟩ := aa hm
  refine qGs [(1, hro (fE h1) y6), (3, hto (bE c1)), (5, hro (fE h2) y6)] [] [(16, .bool (!decide (ay = (0:Int))))] ?_
  exact qX (!decide (ay = (0:Int))) hm
 rintro v_1 hm
 rw [hJ1] at hm
 rcases ai hm with ⟨c2,hm⟩|⟨c2,hm⟩
 ·refine qT c2 ?_
  refine qD [] [2, 3, 16] [(5, i6 1)] [141002, 141003] [] ?_
  cases hm
  exact A.ret qE
 refine qF c2 ?_
 refine A.skip ?_
 show ah _ _ _ _ _
 obtain ⟨aK, h3, hm⟩ := aa hm
 refine qD [(1, hdc [500015700] (rq h3) ajr), (2, .al 141006)] [2, 16] [(6, .ptr 141006 0)] [141002] [(500015700, .slice 50 5 (ml aH aK.aq) 0 false), (141006, .cells 60 [.own 500015700])] ?_
 refine A.seq ?_
 refine qD [(2, hto (lnE aH b.aq))] [3] [(21, lf aH b.aq), (22, i6 (b.aq.length:Int)), (23, i6 0)] [141003] [] ?_
 refine A.block ?_
 refine A.bS 21 rfl fun hb1 => ?_
 obtain ⟨B1, K1, hB1, hK1, hm⟩ := bt hm
 refine A.lpI (l := b.aq) (j0 := 0) (B := B1) (K := K1) hm (fun j1 => fun m_1 => [(4, .ptr 141004 0), (6, .ptr 141006 0), (21, lf aH b.aq), (22, i6 (b.aq.length:Int)), (23, i6 (j1 : Int))]) (fun j1 => fun m_1 => [(141004, .cells 60 [.aG]), (141006, .cells 60 [.own 714100600]), (714100600, .slice 50 5 (ml aH m_1) 0 false)]) ?_ ?_ ?_
 ·exact bA.go [.sw 500015700 714100600] [] (by kernel_rfl)
 ·rintro j1 e1 Z1 m_1 hj1 hx1 hm
  rw [hB1] at hm
  refine qDs [] [] [(24, .bool (decide ((j1 : Int) < (b.aq.length:Int))))] ?_
  refine A.seq ?_
  refine qT (ltT hx1) ?_
  refine A.skip ?_
  show ah _ _ _ _ _
  refine A.seq ?_
  refine A.block ?_
  refine qD [(0, hix (ix aH (bf hx1))), (2, .al 141008)] [24] [(8, .ptr 141008 0)] [] [(141008, .cells 50 (k6 e1))] ?_
  obtain ⟨bh, h4, hm⟩ := aa hm
  refine qG [(1, hdc [520141001] (SC.at [(505015800, 714100600), (900000060, 141006), (505015801, 520141001)] (sR h4)) ajs)] [8] [] [141006, 714100600, 141008] [(141006, .cells 60 [.own 520141001]), (520141001, .slice 50 5 (ml aH bh.2.aq) 0 false)] ?_
  show ah _ _ _ _ _
  refine qGs [(0, hto (inc hx1 hb1))] [23] [(23, i6 ((j1 + 1 : Nat) : Int))] ?_
  exact Exists.intro bh.2.aq (And.intro hm (bA.go [.sw 520141001 714100600] [] (by kernel_rfl)))
 rintro j1 m_1 hj1 hl1 hm
 rw [hK1] at hm
 refine qDs [] [] [(24, .bool (decide ((j1 : Int) < (b.aq.length:Int))))] ?_
 refine A.seq ?_
 refine qF (ltF hl1) ?_
 refine A.exit ?_
 show ah _ _ _ _ _
 refine qD [] [6, 21, 22, 23, 24] [(5, i6 0)] [141004, 141006] [(141004, .cells 60 [.own 714100600])] ?_
 refine A.ret ?_
 obtain rfl := some_inj hm
 exact A.fin W0 [.fz [714100600]] rfl (by kernel_rfl)
end Go.Proofs.YtpmifmdidfgpdaaGreat
