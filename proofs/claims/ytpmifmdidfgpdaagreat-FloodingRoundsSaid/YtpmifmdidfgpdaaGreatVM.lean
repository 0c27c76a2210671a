/- The eC of cr of the program. No condition but bT bB stand in each. -/
import Derived.Test.YtpmifmdidfgpdaaGreatDA
import Derived.Test.YtpmifmdidfgpdaaGreatVF
import Derived.Test.YtpmifmdidfgpdaaGreatIN
namespace Go.Proofs.YtpmifmdidfgpdaaGreat
open Go
set_option maxRecDepth 100000
set_option linter.all false
theorem lU {m : aL} {i : Int} {r : aL} (hm : dz m i = some r) : bM Tryz.prog 75 [(505007500, .slice 81 5 (ml aO m.f_.aC) 0 false), (505007502, .slice 62 3 (ml aN m.f_.aA) 0 false), (900000091, .cells 91 [lf az m.f_.Links, .own 505007500, .own 505007502])] [.ptr 900000091 0, i6 i] (fun a σ' => a = .tup [] ∧ σ' = [(900000091, .cells 91 [lf az r.f_.Links, .own 505007501, .own 505007503]), (505007501, .slice 81 5 (ml aO r.f_.aC) 0 false), (505007503, .slice 62 3 (ml aN r.f_.aA) 0 false)]) := by
 refine aT Tryz.func75 rfl rfl ?_
 unfold dz at hm
 obtain ⟨e_1, h1, hm⟩ := aa hm
 refine qS [(6, hix (ix aO h1))] [(0, .ptr 900000091 0), (4, .ptr 505007500 (i.toNat * 5))] [(505007500, .slice 81 5 (ml aO m.f_.aC) 0 false), (505007502, .slice 62 3 (ml aN m.f_.aA) 0 false), (900000091, .cells 91 [lf az m.f_.Links, .own 505007500, .own 505007502])] ?_
 obtain ⟨af, h2, hm⟩ := aa hm
 refine qD [(6, hlo 505007500 0 (ix aO h1)), (7, hdl [505007500, 505007502] [500006400, 500006401] (oN h2) ahK ⟨kP bk (fun _ => rfl) _, kP aS (fun _ => rfl) _, trivial⟩), (11, .al 75005)] [0] [(5, .ptr 75005 0), (6, .bool af.2)] [] [(75005, .cells 50 [i6 af.1.ak, i6 af.1.Seq, .bool af.1.aX, .own 500006400, .own 500006401]), (500006400, .slice 106 3 (ml bk af.1.Links) 0 false), (500006401, .slice 85 3 (ml aS af.1.Claims) 0 false)] ?_
 refine qDs [] [6] [(25, .bool af.2)] ?_
 rcases ai hm with ⟨c1,hm⟩|⟨c1,hm⟩
 ·refine qT c1 ?_
  obtain ⟨ay, h3, hm⟩ := aa hm
  obtain ⟨l_1, h4, hm⟩ := aa hm
  refine A.R W0 [.fz [500006400, 500006401]] [(4, hlo 505007500 4 (ix aO h1)), (6, hro (yj h3) atB), (12, hso 505007500 (st aO (off := 4) (ca := (k7 ay.1)) h1 h4 rfl) (iM h1).1.1)] [] [(505007500, .slice 81 5 (ml aO l_1) 0 false), (505007502, .slice 62 3 (ml aN m.f_.aA) 0 false), (900000091, .cells 91 [lf az m.f_.Links, .own 505007500, .own 505007502])] (by kernel_rfl) ?_
  obtain rfl := some_inj hm
  exact A.fin W0 [.rn 505007500 505007501, .rn 505007502 505007503] rfl (by kernel_rfl)
 refine qF c1 ?_
 refine A.skip ?_
 obtain rfl := some_inj hm
 exact A.fin W0 [.rn 505007500 505007501, .rn 505007502 505007503] rfl (by kernel_rfl)
theorem sL {m : aL} {i : Int} {r : aL} (hm : gm m i = some r) : bM Tryz.prog 78 [(505007800, .slice 81 5 (ml aO m.f_.aC) 0 false), (505007802, .slice 62 3 (ml aN m.f_.aA) 0 false), (900000091, .cells 91 [lf az m.f_.Links, .own 505007800, .own 505007802])] [.ptr 900000091 0, i6 i] (fun a σ' => a = .tup [] ∧ σ' = [(900000091, .cells 91 [lf az r.f_.Links, .own 505007801, .own 505007803]), (505007801, .slice 81 5 (ml aO r.f_.aC) 0 false), (505007803, .slice 62 3 (ml aN r.f_.aA) 0 false)]) := by
 refine aT Tryz.func78 rfl rfl ?_
 unfold gm at hm
 obtain ⟨e_1, h1, hm⟩ := aa hm
 refine qS [(6, hix (ix aO h1)), (7, hlo 505007800 0 (ix aO h1)), (8, .al 78004)] [(0, .ptr 900000091 0), (4, .ptr 78004 0)] [(505007800, .slice 81 5 (ml aO m.f_.aC) 0 false), (505007802, .slice 62 3 (ml aN m.f_.aA) 0 false), (900000091, .cells 91 [lf az m.f_.Links, .own 505007800, .own 505007802]), (78004, .cells 81 (k8 e_1))] ?_
 obtain ⟨af, h2, hm⟩ := aa hm
 obtain ⟨ay, h3, hm⟩ := aa hm
 refine qD [(4, hdl [505007800, 505007802] [500002200, 500002201] (fA h2) aav ⟨kP aU (fun _ => rfl) _, kP az (fun _ => rfl) _, trivial⟩), (7, hdl [500002200, 500002201] [500013000] (tX h3) atC ⟨kP bL (fun _ => rfl) _, trivial⟩), (8, hto (lnE bL ay))] [] [(24, i6 0), (22, .own 500013000), (23, i6 (ay.length:Int))] [] [(500013000, .slice 3 1 (ml bL ay) 0 false)] ?_
 refine A.block ?_
 refine A.bW 22 rfl rfl fun hb1 => ?_
 obtain ⟨B1, K1, hB1, hK1, hm⟩ := bt hm
 refine A.lpI (l := ay) (j0 := 0) (B := B1) (K := K1) hm (fun j1 => fun m_1 => [(0, .ptr 900000091 0), (4, .ptr 78004 0), (22, .own 500013000), (23, i6 (ay.length:Int)), (24, i6 (j1 : Int))]) (fun j1 => fun m_1 => [(505007800, .slice 81 5 (ml aO m.f_.aC) 0 false), (900000091, .cells 91 [lf az m.f_.Links, .own 505007800, .own 700009102]), (78004, .cells 81 (k8 e_1)), (500013000, .slice 3 1 (ml bL ay) 0 false), (700009102, .slice 62 3 (ml aN m_1) 0 false)]) ?_ ?_ ?_
 ·exact bA.go [.rn 505007802 700009102] [] (by kernel_rfl)
 ·rintro j1 e1 Z1 m_1 hj1 hx1 hm
  rw [hB1] at hm
  refine qDs [] [] [(25, .bool (decide ((j1 : Int) < (ay.length:Int))))] ?_
  refine A.seq ?_
  refine qT (ltT hx1) ?_
  refine A.skip ?_
  show ah _ _ _ _ _
  refine A.seq ?_
  refine A.block ?_
  refine qDs [(0, hix (ix bL (bf hx1))), (1, hlo 500013000 0 (ix bL (bf hx1)))] [25] [(6, i6 e1)] ?_
  obtain ⟨aK, h4, hm⟩ := aa hm
  obtain ⟨l_1, h5, hm⟩ := aa hm
  refine qG [(11, hro (jI h4) ahM), (14, hap 78542 (ap aN (bytes := 40) (by decide) h5))] [6] [] [900000091, 700009102] [(900000091, .cells 91 [lf az m.f_.Links, .own 505007800, .own 78542]), (78542, .slice 62 3 (ml aN l_1) 0 false)] ?_
  show ah _ _ _ _ _
  refine qGs [(0, hto (inc hx1 hb1))] [24] [(24, i6 ((j1 + 1 : Nat) : Int))] ?_
  exact Exists.intro l_1 (And.intro hm (bA.go [.sw 78542 700009102] [] (by kernel_rfl)))
 rintro j1 m_1 hj1 hl1 hm
 rw [hK1] at hm
 refine qDs [] [] [(25, .bool (decide ((j1 : Int) < (ay.length:Int))))] ?_
 refine A.seq ?_
 refine qF (ltF hl1) ?_
 refine A.exit ?_
 obtain rfl := some_inj hm
 exact A.fin W0 [.rn 505007800 505007801, .sw 700009102 505007803] rfl (by kernel_rfl)
theorem qY {m : aL} {k : Int} {r : aL} (hm : ef m k = some r) : bM Tryz.prog 91 [(505009100, .slice 81 5 (ml aO m.f_.aC) 0 false), (505009102, .slice 62 3 (ml aN m.f_.aA) 0 false), (900000091, .cells 91 [lf az m.f_.Links, .own 505009100, .own 505009102])] [.ptr 900000091 0, i6 k] (fun a σ' => a = .tup [] ∧ σ' = [(900000091, .cells 91 [lf az r.f_.Links, .own 505009101, .own 505009103]), (505009101, .slice 81 5 (ml aO r.f_.aC) 0 false), (505009103, .slice 62 3 (ml aN r.f_.aA) 0 false)]) := by
 refine aT Tryz.func91 rfl rfl ?_
 unfold ef at hm
 obtain ⟨e_1, h1, hm⟩ := aa hm
 refine qS [(6, hix (ix aN h1)), (7, hlo 505009102 0 (ix aN h1)), (8, .al 91004)] [(0, .ptr 900000091 0), (1, i6 k), (4, .ptr 91004 0)] [(505009100, .slice 81 5 (ml aO m.f_.aC) 0 false), (505009102, .slice 62 3 (ml aN m.f_.aA) 0 false), (900000091, .cells 91 [lf az m.f_.Links, .own 505009100, .own 505009102]), (91004, .cells 62 (k9 e_1))] ?_
 obtain ⟨l_1, h2, hm⟩ := aa hm
 refine qD [(9, hdc [520091001] (ahS (d := 505009102) (D := 520091001) h2 (by decide)) ck94)] [1] [] [505009102, 900000091] [(900000091, .cells 91 [lf az m.f_.Links, .own 505009100, .own 520091001]), (520091001, .slice 62 3 (ml aN l_1) 0 false)] ?_
 refine A.seq ?_
 obtain ⟨af, h3, hm⟩ := aa hm
 obtain ⟨ay, h4, hm⟩ := aa hm
 refine qDs [(4, hdl [505009100, 520091001] [500002200, 500002201] (fA h3) aav ⟨kP aU (fun _ => rfl) _, kP az (fun _ => rfl) _, trivial⟩), (9, hle [500002200, 500002201] (w9 h4) ck89)] [] [(6, .bool ay.2)] ?_
 refine qDs [] [6] [(49, .bool (!ay.2))] ?_
 rcases ai hm with ⟨c1,hm⟩|⟨c1,hm⟩
 ·refine qT c1 ?_
  refine A.ret ?_
  obtain rfl := some_inj hm
  exact A.fin W0 [.rn 505009100 505009101, .sw 520091001 505009103] rfl (by kernel_rfl)
 refine qF c1 ?_
 refine A.skip ?_
 show ah _ _ _ _ _
 obtain ⟨aK, h5, hm⟩ := aa hm
 refine qDs [(6, hle [505009100, 520091001] (jq h5) acf)] [49] [(7, i6 aK.1)] ?_
 obtain ⟨e_2, h6, hm⟩ := aa hm
 refine qDs [(6, hix (ix aO h6))] [] [(9, .ptr 505009100 (aK.1.toNat * 5))] ?_
 obtain ⟨bh, h7, hm⟩ := aa hm
 obtain ⟨l_2, h8, hm⟩ := aa hm
 refine qD [(4, hlo 505009100 4 (ix aO h6)), (7, hro (wK h7) atG), (13, hso 505009100 (st aO (off := 4) (ca := (k7 bh.1)) h6 h8 rfl) (iM h6).1.1)] [4] [] [505009100, 91004] [(505009100, .slice 81 5 (ml aO l_2) 0 false)] ?_
 obtain ⟨e_3, h9, hm⟩ := aa hm
 obtain ⟨bI, h10, hm⟩ := aa hm
 refine qD [(3, hlo 505009100 4 (ix aO h9)), (7, hlo 505009100 0 (ix aO h9)), (8, hro (si h10) apq), (12, .al 91010)] [] [(10, .ptr 91010 0), (11, .bool bI.2)] [] [(91010, .cells 50 (k6 bI.1))] ?_
 obtain ⟨bV, h11, hm⟩ := aa hm
 refine qD [(6, hlo 505009100 0 (ix aO h9)), (7, hdl [505009100, 520091001] [500006400, 500006401] (oN h11) ahK ⟨kP bk (fun _ => rfl) _, kP aS (fun _ => rfl) _, trivial⟩), (11, .al 91012)] [] [(12, .ptr 91012 0), (13, .bool bV.2)] [] [(91012, .cells 50 [i6 bV.1.ak, i6 bV.1.Seq, .bool bV.1.aX, .own 500006400, .own 500006401]), (500006400, .slice 106 3 (ml bk bV.1.Links) 0 false), (500006401, .slice 85 3 (ml aS bV.1.Claims) 0 false)] ?_
 obtain ⟨J1, hJ1, hm⟩ := bJ hm
 refine A.J (J := J1) (r := r) (fun v_1 => [(0, .ptr 900000091 0), (7, i6 aK.1), (9, .ptr 505009100 (aK.1.toNat * 5)), (10, .ptr 91010 0), (118, .bool v_1)]) (fun v_1 => [(505009100, .slice 81 5 (ml aO l_2) 0 false), (900000091, .cells 91 [lf az m.f_.Links, .own 505009100, .own 520091001]), (520091001, .slice 62 3 (ml aN l_1) 0 false), (91010, .cells 50 (k6 bI.1))]) ?_ ?_
 ·rcases ai hm with ⟨c2,hm⟩|⟨c2,hm⟩
  ·rcases ai hm with ⟨c3,hm⟩|⟨c3,hm⟩
   ·refine qG [(1, hto (bE c2)), (4, hto (bE c3))] [11, 12, 13] [(118, .bool (decide (bI.1.Seq < (1000000:Int))))] [91012, 500006400, 500006401] [] ?_
    exact qX (decide (bI.1.Seq < (1000000:Int))) hm
   obtain ⟨cD, h12, hm⟩ := aa hm
   rcases ai hm with ⟨c4,hm⟩|⟨c4,hm⟩
   ·refine qG [(1, hto (bE c2)), (4, hto (bE c3)), (7, hle [500006400, 500006401] (mW h12) aeb), (11, hto (bE c4))] [11, 12, 13] [(118, .bool (decide (bI.1.Seq < (1000000:Int))))] [91012, 500006400, 500006401] [] ?_
    exact qX (decide (bI.1.Seq < (1000000:Int))) hm
   refine qG [(1, hto (bE c2)), (4, hto (bE c3)), (7, hle [500006400, 500006401] (mW h12) aeb), (11, hto (bE c4))] [11, 12, 13] [(118, .bool false)] [91012, 500006400, 500006401] [] ?_
   exact qX false hm
  refine qG [(1, hto (bE c2))] [11, 12, 13] [(118, .bool false)] [91012, 500006400, 500006401] [] ?_
  exact qX false hm
 rintro v_1 hm
 rw [hJ1] at hm
 rcases ai hm with ⟨c5,hm⟩|⟨c5,hm⟩
 ·refine qT c5 ?_
  obtain ⟨l_3, h13, hm⟩ := aa hm
  refine qD [(6, hso 505009100 (st aO (off := 1) (ca := [i6 (w64 (bI.1.Seq + (1:Int)))]) h9 h13 rfl) (iM h9).1.1)] [9, 10, 118] [] [505009100, 91010] [(505009100, .slice 81 5 (ml aO l_3) 0 false)] ?_
  obtain ⟨dg, h14, hm⟩ := aa hm
  refine qR [(2, hdc [520091002, 520091003] (SC.at [(505007500, 505009100), (505007502, 520091001), (505007501, 520091002), (505007503, 520091003)] (lU h14)) apv)] [] [(900000091, .cells 91 [lf az dg.f_.Links, .own 520091002, .own 520091003]), (520091002, .slice 81 5 (ml aO dg.f_.aC) 0 false), (520091003, .slice 62 3 (ml aN dg.f_.aA) 0 false)] ?_
  obtain rfl := some_inj hm
  exact A.fin W0 [.sw 520091002 505009101, .sw 520091003 505009103] rfl (by kernel_rfl)
 refine qF c5 ?_
 refine A.skip ?_
 obtain rfl := some_inj hm
 exact A.fin W0 [.rn 505009100 505009101, .sw 520091001 505009103] rfl (by kernel_rfl)
theorem mI {m : aL} {r : aL} (hm : eG m = some r) : bM Tryz.prog 55 [(505005500, .slice 81 5 (ml aO m.f_.aC) 0 false), (505005502, .slice 62 3 (ml aN m.f_.aA) 0 false), (900000091, .cells 91 [lf az m.f_.Links, .own 505005500, .own 505005502])] [.ptr 900000091 0] (fun a σ' => a = .tup [] ∧ σ' = [(900000091, .cells 91 [lf az r.f_.Links, .own 505005501, .own 505005503]), (505005501, .slice 81 5 (ml aO r.f_.aC) 0 false), (505005503, .slice 62 3 (ml aN r.f_.aA) 0 false)]) := by
 refine aT Tryz.func55 rfl rfl ?_
 unfold eG at hm
 refine A.block ?_
 obtain ⟨F1, n1, hF1, hm⟩ := fC hm
 refine A.lpW (F := F1) hm (fun sg => match sg with | (m_1, m_2, m_3) => [(0, .ptr 900000091 0)]) (fun sg => match sg with | (m_1, m_2, m_3) => [(900000091, .cells 91 [lf az m_1, .own 700009101, .own 700009102]), (700009101, .slice 81 5 (ml aO m_2) 0 false), (700009102, .slice 62 3 (ml aN m_3) 0 false)]) ?_ ?_
 ·exact bA.go [.rn 505005500 700009101, .rn 505005502 700009102] [] (by kernel_rfl)
 rintro Z1 ⟨m_1, m_2, m_3⟩ hm
 rw [hF1] at hm
 refine A.seq ?_
 refine qDs [(5, hto (lnE aN m_3))] [] [(8, .bool (decide ((0:Int) < (m_3.length:Int))))] ?_
 rcases ai hm with ⟨c1,hm⟩|⟨c1,hm⟩
 ·refine qT c1 ?_
  refine A.skip ?_
  show ah _ _ _ _ _
  refine A.block ?_
  obtain ⟨af, h1, hm⟩ := aa hm
  refine qR [(1, hdc [520055001, 520055002] (SC.at [(505009100, 700009101), (505009102, 700009102), (505009101, 520055001), (505009103, 520055002)] (qY h1)) ck91)] [(0, .ptr 900000091 0)] [(900000091, .cells 91 [lf az af.f_.Links, .own 520055001, .own 520055002]), (520055001, .slice 81 5 (ml aO af.f_.aC) 0 false), (520055002, .slice 62 3 (ml aN af.f_.aA) 0 false)] ?_
  exact Exists.intro (af.f_.Links, af.f_.aC, af.f_.aA) (And.intro hm (bA.go [.sw 520055001 700009101, .sw 520055002 700009102] [] (by kernel_rfl)))
 refine qF c1 ?_
 refine A.exit ?_
 obtain rfl := some_inj hm
 exact A.fin W0 [.sw 700009101 505005501, .sw 700009102 505005503] rfl (by kernel_rfl)
theorem qZ {m : aL} {r : aL} (hm : fh m = some r) : bM Tryz.prog 56 [(505005600, .slice 81 5 (ml aO m.f_.aC) 0 false), (505005602, .slice 62 3 (ml aN m.f_.aA) 0 false), (900000091, .cells 91 [lf az m.f_.Links, .own 505005600, .own 505005602])] [.ptr 900000091 0] (fun a σ' => a = .tup [] ∧ σ' = [(900000091, .cells 91 [lf az r.f_.Links, .own 505005601, .own 505005603]), (505005601, .slice 81 5 (ml aO r.f_.aC) 0 false), (505005603, .slice 62 3 (ml aN r.f_.aA) 0 false)]) := by
 refine aT Tryz.func56 rfl rfl ?_
 unfold fh at hm
 refine qS [(5, hto (lnE aO m.f_.aC))] [(0, .ptr 900000091 0), (8, i6 (m.f_.aC.length:Int)), (9, i6 0)] [(505005600, .slice 81 5 (ml aO m.f_.aC) 0 false), (505005602, .slice 62 3 (ml aN m.f_.aA) 0 false), (900000091, .cells 91 [lf az m.f_.Links, .own 505005600, .own 505005602])] ?_
 refine A.block ?_
 refine A.bD 0 1 rfl rfl rfl rfl fun hb1 => ?_
 obtain ⟨B1, K1, hB1, hK1, hm⟩ := bt hm
 refine A.lpI (l := m.f_.aC) (j0 := 0) (B := B1) (K := K1) hm (fun j1 => fun sg => match sg with | (m_1, m_2, m_3) => [(0, .ptr 900000091 0), (8, i6 (m.f_.aC.length:Int)), (9, i6 (j1 : Int))]) (fun j1 => fun sg => match sg with | (m_1, m_2, m_3) => [(900000091, .cells 91 [lf az m_1, .own 700009101, .own 700009102]), (700009101, .slice 81 5 (ml aO m_2) 0 false), (700009102, .slice 62 3 (ml aN m_3) 0 false)]) ?_ ?_ ?_
 ·exact bA.go [.rn 505005600 700009101, .rn 505005602 700009102] [] (by kernel_rfl)
 ·rintro j1 e1 Z1 ⟨m_1, m_2, m_3⟩ hj1 hx1 hm
  rw [hB1] at hm
  refine qDs [] [] [(10, .bool (decide ((j1 : Int) < (m.f_.aC.length:Int))))] ?_
  refine A.seq ?_
  refine qT (ltT hx1) ?_
  refine A.skip ?_
  show ah _ _ _ _ _
  refine A.seq ?_
  refine A.block ?_
  refine qDs [] [10] [(2, i6 (j1 : Int))] ?_
  obtain ⟨af, h1, hm⟩ := aa hm
  refine qG [(2, hdc [520056001, 520056002] (SC.at [(505007800, 700009101), (505007802, 700009102), (505007801, 520056001), (505007803, 520056002)] (sL h1)) ck78)] [2] [] [900000091, 700009101, 700009102] [(900000091, .cells 91 [lf az af.f_.Links, .own 520056001, .own 520056002]), (520056001, .slice 81 5 (ml aO af.f_.aC) 0 false), (520056002, .slice 62 3 (ml aN af.f_.aA) 0 false)] ?_
  show ah _ _ _ _ _
  refine qGs [(0, hto (inc hx1 hb1))] [9] [(9, i6 ((j1 + 1 : Nat) : Int))] ?_
  exact Exists.intro (af.f_.Links, af.f_.aC, af.f_.aA) (And.intro hm (bA.go [.sw 520056001 700009101, .sw 520056002 700009102] [] (by kernel_rfl)))
 rintro j1 ⟨m_1, m_2, m_3⟩ hj1 hl1 hm
 rw [hK1] at hm
 refine qDs [] [] [(10, .bool (decide ((j1 : Int) < (m.f_.aC.length:Int))))] ?_
 refine A.seq ?_
 refine qF (ltF hl1) ?_
 refine A.exit ?_
 obtain rfl := some_inj hm
 exact A.fin W0 [.sw 700009101 505005601, .sw 700009102 505005603] rfl (by kernel_rfl)
end Go.Proofs.YtpmifmdidfgpdaaGreat
