/- The iY of ee of the program. No condition but bL aY stand in each. -/
import Derived.Test.YtdjeacigeegklaaDA
import Derived.Test.YtdjeacigeegklaaVJ
import Derived.Test.YtdjeacigeegklaaV6
namespace Go.Proofs.Ytdjeacigeegklaa
open Go
set_option maxRecDepth 100000
set_option linter.all false
theorem bP {n : Int} {most : Int} {r : Bool} (hm : iq n most = some r) : RO Try.prog 49 [] [i6 n, i6 most] (.bool r) := by
 refine bO Try.func49 rfl rfl ?_
 unfold iq at hm
 refine qS [] [(0, i6 n), (1, i6 most)] [] ?_
 refine A.mid [(4, .bool ((decide ((0:Int) ≤ n)) && (decide (n ≤ most))))] [] (fun hk => ?_) ?_
 ·rcases tf (decide ((0:Int) ≤ n)) with c1 | c1
  ·exact qS [(2, hto (bE c1)), (7, hto (mM (q := decide (n ≤ most)) c1))] _ _ hk
  exact qS [(2, hto (bE c1)), (7, hto (oD (q := decide (n ≤ most)) c1))] _ _ hk
 cases hm
 exact A.ret qE
theorem gP {p : aS} {r : Bool} (hm : ig p = some r) : RO Try.prog 22 [] [.agg (k7 p)] (.bool r) := by
 refine bO Try.func22 rfl rfl ?_
 unfold ig at hm
 refine qS [(0, .al 22001)] [(1, .ptr 22001 0)] [(22001, .cells 36 (k7 p))] ?_
 rcases aA hm with ⟨c1,hm⟩|⟨c1,hm⟩
 ·rcases aA hm with ⟨c2,hm⟩|⟨c2,hm⟩
  ·obtain ⟨ay, h1, hm⟩ := af hm
   rcases aA hm with ⟨c3,hm⟩|⟨c3,hm⟩
   ·obtain ⟨aV, h2, hm⟩ := af hm
    rcases aA hm with ⟨c4,hm⟩|⟨c4,hm⟩
    ·obtain ⟨bu, h3, hm⟩ := af hm
     rcases aA hm with ⟨c5,hm⟩|⟨c5,hm⟩
     ·obtain ⟨aK, h4, hm⟩ := af hm
      rcases aA hm with ⟨c6,hm⟩|⟨c6,hm⟩
      ·obtain ⟨cO, h5, hm⟩ := af hm
       rcases aA hm with ⟨c7,hm⟩|⟨c7,hm⟩
       ·obtain ⟨aU, h6, hm⟩ := af hm
        rcases aA hm with ⟨c8,hm⟩|⟨c8,hm⟩
        ·obtain ⟨dh, h7, hm⟩ := af hm
         rcases aA hm with ⟨c9,hm⟩|⟨c9,hm⟩
         ·refine qS [(3, hto (bE c1)), (8, hto (bE c2)), (11, hro (bP h1) gJ), (13, hto (bE c3)), (16, hro (bP h2) gJ), (18, hto (bE c4)), (23, hro (gO h3) yE), (25, hto (bE c5)), (28, hro (bP h4) gJ), (30, hto (bE c6)), (33, hro (bP h5) gJ), (35, hto (bE c7)), (38, hro (bP h6) gJ), (40, hto (bE c8)), (43, hro (bP h7) gJ), (45, hto (bE c9))] [(2, .bool (decide ((p.cz.size:Int) ≤ (64:Int))))] [] ?_
          cases hm
          exact A.ret qE
         refine qS [(3, hto (bE c1)), (8, hto (bE c2)), (11, hro (bP h1) gJ), (13, hto (bE c3)), (16, hro (bP h2) gJ), (18, hto (bE c4)), (23, hro (gO h3) yE), (25, hto (bE c5)), (28, hro (bP h4) gJ), (30, hto (bE c6)), (33, hro (bP h5) gJ), (35, hto (bE c7)), (38, hro (bP h6) gJ), (40, hto (bE c8)), (43, hro (bP h7) gJ), (45, hto (bE c9))] [(2, .bool false)] [] ?_
         cases hm
         exact A.ret qE
        refine qS [(3, hto (bE c1)), (8, hto (bE c2)), (11, hro (bP h1) gJ), (13, hto (bE c3)), (16, hro (bP h2) gJ), (18, hto (bE c4)), (23, hro (gO h3) yE), (25, hto (bE c5)), (28, hro (bP h4) gJ), (30, hto (bE c6)), (33, hro (bP h5) gJ), (35, hto (bE c7)), (38, hro (bP h6) gJ), (40, hto (bE c8))] [(2, .bool false)] [] ?_
        cases hm
        exact A.ret qE
       refine qS [(3, hto (bE c1)), (8, hto (bE c2)), (11, hro (bP h1) gJ), (13, hto (bE c3)), (16, hro (bP h2) gJ), (18, hto (bE c4)), (23, hro (gO h3) yE), (25, hto (bE c5)), (28, hro (bP h4) gJ), (30, hto (bE c6)), (33, hro (bP h5) gJ), (35, hto (bE c7))] [(2, .bool false)] [] ?_
       cases hm
       exact A.ret qE
      refine qS [(3, hto (bE c1)), (8, hto (bE c2)), (11, hro (bP h1) gJ), (13, hto (bE c3)), (16, hro (bP h2) gJ), (18, hto (bE c4)), (23, hro (gO h3) yE), (25, hto (bE c5)), (28, hro (bP h4) gJ), (30, hto (bE c6))] [(2, .bool false)] [] ?_
      cases hm
      exact A.ret qE
     refine qS [(3, hto (bE c1)), (8, hto (bE c2)), (11, hro (bP h1) gJ), (13, hto (bE c3)), (16, hro (bP h2) gJ), (18, hto (bE c4)), (23, hro (gO h3) yE), (25, hto (bE c5))] [(2, .bool false)] [] ?_
     cases hm
     exact A.ret qE
    refine qS [(3, hto (bE c1)), (8, hto (bE c2)), (11, hro (bP h1) gJ), (13, hto (bE c3)), (16, hro (bP h2) gJ), (18, hto (bE c4))] [(2, .bool false)] [] ?_
    cases hm
    exact A.ret qE
   refine qS [(3, hto (bE c1)), (8, hto (bE c2)), (11, hro (bP h1) gJ), (13, hto (bE c3))] [(2, .bool false)] [] ?_
   cases hm
   exact A.ret qE
  refine qS [(3, hto (bE c1)), (8, hto (bE c2))] [(2, .bool false)] [] ?_
  cases hm
  exact A.ret qE
 refine qS [(3, hto (bE c1))] [(2, .bool false)] [] ?_
 cases hm
 exact A.ret qE
theorem xg {p : aS} {bit : Int} {r : aS} (hm : jF p bit = some r) : RO Try.prog 26 [] [.agg (k7 p), i6 bit] (.agg (k7 r)) := by
 refine bO Try.func26 rfl rfl ?_
 unfold jF at hm
 refine qS [(0, .al 26002), (1, .al 26004)] [(1, i6 bit), (2, .ptr 26002 0), (4, .ptr 26004 0)] [(26002, .cells 36 (k7 p)), (26004, .cells 36 [i6 0, i6 0, i6 0, i6 0, i6 0, i6 0, i6 0, i6 0, .int .u64 (0:Int), .str (⟨#[]⟩ : ByteArray)])] ?_
 refine A.seq ?_
 obtain ⟨J1, hJ1, hm⟩ := cD hm
 refine A.J (J := J1) (r := r) (fun v_1 => [(1, i6 bit), (2, .ptr 26002 0), (4, .ptr 26004 0), (23, .bool v_1)]) (fun v_1 => [(26002, .cells 36 (k7 p)), (26004, .cells 36 [i6 0, i6 0, i6 0, i6 0, i6 0, i6 0, i6 0, i6 0, .int .u64 (0:Int), .str (⟨#[]⟩ : ByteArray)])]) ?_ ?_
 ·obtain ⟨ay, h1, hm⟩ := af hm
  rcases aA hm with ⟨c1,hm⟩|⟨c1,hm⟩
  ·refine qGs [(1, hro (gP h1) yD), (3, hto (bE c1))] [] [(23, .bool true)] ?_
   exact qX true hm
  rcases aA hm with ⟨c2,hm⟩|⟨c2,hm⟩
  ·refine qGs [(1, hro (gP h1) yD), (3, hto (bE c1)), (7, hto (bE c2))] [] [(23, .bool true)] ?_
   exact qX true hm
  rcases aA hm with ⟨c3,hm⟩|⟨c3,hm⟩
  ·refine qGs [(1, hro (gP h1) yD), (3, hto (bE c1)), (7, hto (bE c2)), (11, hto (bE c3))] [] [(23, .bool true)] ?_
   exact qX true hm
  obtain ⟨h2, hm⟩ := eB hm
  refine qGs [(1, hro (gP h1) yD), (3, hto (bE c1)), (7, hto (bE c2)), (11, hto (bE c3)), (15, .sh bit (of_decide_eq_true h2))] [] [(23, .bool (decide (bH .and .u64 (Int.fdiv p.Bits (2 ^ min bit.toNat 64)) (1:Int) = (0:Int))))] ?_
  exact qX (decide (bH .and .u64 (Int.fdiv p.Bits (2 ^ min bit.toNat 64)) (1:Int) = (0:Int))) hm
 rintro v_1 hm
 rw [hJ1] at hm
 rcases aA hm with ⟨c4,hm⟩|⟨c4,hm⟩
 ·refine qT c4 ?_
  refine qD [] [1, 2, 23] [] [26002] [] ?_
  cases hm
  exact A.ret qE
 refine qF c4 ?_
 refine A.skip ?_
 show aj _ _ _ _ _
 obtain ⟨h3, hm⟩ := eB hm
 refine qD [(1, .sh bit (of_decide_eq_true h3))] [1, 23] [] [26002] [(26002, .cells 36 [i6 p.Mode, i6 p.bQ, i6 p.Set, i6 p.Length, i6 p.TTL, i6 p.cv, i6 p.cw, i6 p.dx, .int .u64 (IntKind.wrap .u64 ((1:Int) * 2 ^ min bit.toNat 64)), .str p.cz])] ?_
 refine qS [] [(4, .ptr 26004 0)] [(26004, .cells 36 [i6 p.Mode, i6 p.bQ, i6 p.Set, i6 p.Length, i6 p.TTL, i6 p.cv, i6 p.cw, i6 p.dx, .int .u64 (IntKind.wrap .u64 ((1:Int) * 2 ^ min bit.toNat 64)), .str p.cz])] ?_
 cases hm
 exact A.ret qE
theorem nP {e : aM} {p : aS} {r : Int} (hm : gz e p = some r) : RO Try.prog 24 [] [.agg (k5 e), .agg (k7 p)] (i6 r) := by
 refine bO Try.func24 rfl rfl ?_
 unfold gz at hm
 refine qS [(0, .al 24002), (1, .al 24003)] [(2, .ptr 24002 0), (3, .ptr 24003 0)] [(24002, .cells 32 (k5 e)), (24003, .cells 36 (k7 p))] ?_
 refine A.seq ?_
 refine A.block ?_
 refine qDs [] [] [(5, .bool (!decide (p.Mode = (2:Int))))] ?_
 rcases aA hm with ⟨c1,hm⟩|⟨c1,hm⟩
 ·refine qT c1 ?_
  refine qS [] [(4, i6 7)] [] ?_
  cases hm
  exact A.ret qE
 refine qF c1 ?_
 refine qS [] [(9, .bool (!decide (p.Length = e.Length)))] [] ?_
 rcases aA hm with ⟨c2,hm⟩|⟨c2,hm⟩
 ·refine qT c2 ?_
  refine qS [] [(4, i6 8)] [] ?_
  cases hm
  exact A.ret qE
 refine qF c2 ?_
 refine A.skip ?_
 show aj _ _ _ _ _
 refine qS [] [(4, i6 0)] [] ?_
 cases hm
 exact A.ret qE
theorem ni {e : aM} {bW : Int} {p : aS} {r : fI × (List aX)} (hm : gb e bW p = some r) : RO Try.prog 25 [] [.agg (k5 e), i6 bW, .agg (k7 p)] (.tup [.agg (k8 r.1), lf cE r.2]) := by
 refine bO Try.func25 rfl rfl ?_
 unfold gb at hm
 refine qS [(0, .al 25003), (1, .al 25005), (2, .al 25006)] [(1, i6 bW), (3, .ptr 25003 0), (5, .ptr 25005 0), (6, .ptr 25006 0), (7, .aW)] [(25003, .cells 32 (k5 e)), (25005, .cells 36 (k7 p)), (25006, .cells 65 [.int .u64 (0:Int), .int .u64 (0:Int), .aW])] ?_
 obtain ⟨ay, h1, hm⟩ := af hm
 refine qDs [(4, hro (uY h1) ck53)] [] [(8, .int .u64 (bH .andNot .u64 p.Bits ay))] ?_
 refine A.seq ?_
 refine qD [(2, hto (lnE ak e.List))] [3] [(20, lf ak e.List), (21, i6 (e.List.length:Int)), (22, i6 0)] [25003] [] ?_
 refine A.block ?_
 refine A.bS 20 rfl fun hb1 => ?_
 obtain ⟨B1, K1, hB1, hK1, hm⟩ := bN hm
 refine A.lpI (l := e.List) (j0 := 0) (B := B1) (K := K1) hm (fun j1 => fun sg => match sg with | (gd, m_1, m_2, m_3) => [(1, i6 bW), (5, .ptr 25005 0), (6, .ptr 25006 0), (7, .own 600025007), (8, .int .u64 (bH .andNot .u64 p.Bits ay)), (20, lf ak e.List), (21, i6 (e.List.length:Int)), (22, i6 (j1 : Int))]) (fun j1 => fun sg => match sg with | (gd, m_1, m_2, m_3) => [(25005, .cells 36 (k7 p)), (25006, .cells 65 [.int .u64 m_1, .int .u64 m_2, .own 702500602]), (600025007, .slice 96 16 (ml cE gd) 0 false), (702500602, .slice 72 12 (ml lN m_3) 0 false)]) ?_ ?_ ?_
 ·exact bz.go [.ad 7 600025007 96 16, .ac 25006 702500602 72 12 2] [] (by kernel_rfl)
 ·rintro j1 e1 Z1 ⟨gd, m_1, m_2, m_3⟩ hj1 hx1 hm
  rw [hB1] at hm
  refine qDs [] [] [(23, .bool (decide ((j1 : Int) < (e.List.length:Int))))] ?_
  refine A.seq ?_
  refine qT (ltT hx1) ?_
  refine A.skip ?_
  show aj _ _ _ _ _
  obtain ⟨J1, hJ1, hm⟩ := cD hm
  refine A.J (J := J1) (r := r) (fun sg => match sg with | (qs, m_4, m_5, m_6) => [(1, i6 bW), (5, .ptr 25005 0), (6, .ptr 25006 0), (7, .own 600025007), (8, .int .u64 (bH .andNot .u64 p.Bits ay)), (20, lf ak e.List), (21, i6 (e.List.length:Int)), (22, i6 (j1 : Int))]) (fun sg => match sg with | (qs, m_4, m_5, m_6) => [(25005, .cells 36 (k7 p)), (25006, .cells 65 [.int .u64 m_4, .int .u64 m_5, .own 702500602]), (600025007, .slice 96 16 (ml cE qs) 0 false), (702500602, .slice 72 12 (ml lN m_6) 0 false)]) ?_ ?_
  ·refine A.block ?_
   refine qD [(0, hix (ix ak (b8 hx1))), (2, .al 25010)] [23] [(10, .ptr 25010 0)] [] [(25010, .cells 39 (k4 e1))] ?_
   obtain ⟨h2, hm⟩ := eB hm
   refine qDs [(2, .sh e1.Bit (of_decide_eq_true h2))] [] [(11, .int .u64 (IntKind.wrap .u64 ((1:Int) * 2 ^ min e1.Bit.toNat 64)))] ?_
   refine A.seq ?_
   refine A.mid [(1, i6 bW), (5, .ptr 25005 0), (6, .ptr 25006 0), (7, .own 600025007), (8, .int .u64 (bH .andNot .u64 p.Bits ay)), (20, lf ak e.List), (21, i6 (e.List.length:Int)), (22, i6 (j1 : Int)), (10, .ptr 25010 0), (11, .int .u64 (IntKind.wrap .u64 ((1:Int) * 2 ^ min e1.Bit.toNat 64))), (39, .bool ((!decide (e1.aR = bW)) || (decide (bH .and .u64 p.Bits (IntKind.wrap .u64 ((1:Int) * 2 ^ min e1.Bit.toNat 64)) = (0:Int)))))] [(25005, .cells 36 (k7 p)), (25006, .cells 65 [.int .u64 m_1, .int .u64 m_2, .own 702500602]), (600025007, .slice 96 16 (ml cE gd) 0 false), (702500602, .slice 72 12 (ml lN m_3) 0 false), (25010, .cells 39 (k4 e1))] (fun hk => ?_) ?_
   ·rcases tf (!decide (e1.aR = bW)) with c1 | c1
    ·exact qS [(4, hto (bE c1)), (10, hto (orT (q := decide (bH .and .u64 p.Bits (IntKind.wrap .u64 ((1:Int) * 2 ^ min e1.Bit.toNat 64)) = (0:Int))) c1))] _ _ hk
    exact qS [(4, hto (bE c1)), (10, hto (orF (q := decide (bH .and .u64 p.Bits (IntKind.wrap .u64 ((1:Int) * 2 ^ min e1.Bit.toNat 64)) = (0:Int))) c1))] _ _ hk
   rcases aA hm with ⟨c2,hm⟩|⟨c2,hm⟩
   ·refine qT c2 ?_
    refine A.exit ?_
    exact qX (gd, m_1, m_2, m_3) hm
   refine qF c2 ?_
   refine A.skip ?_
   show aj _ _ _ _ _
   refine A.block ?_
   refine qDs [] [39] [(40, .bool (decide (e1.Kind = (3:Int))))] ?_
   rcases aA hm with ⟨c3,hm⟩|⟨c3,hm⟩
   ·refine qT c3 ?_
    refine qG [] [10, 11, 40] [] [25006, 25010] [(25006, .cells 65 [.int .u64 (bH .or .u64 m_1 (IntKind.wrap .u64 ((1:Int) * 2 ^ min e1.Bit.toNat 64))), .int .u64 m_2, .own 702500602])] ?_
    exact qX (gd, bH .or .u64 m_1 (IntKind.wrap .u64 ((1:Int) * 2 ^ min e1.Bit.toNat 64)), m_2, m_3) hm
   refine qF c3 ?_
   refine qDs [] [40] [(49, .bool (decide (p.TTL = (0:Int))))] ?_
   rcases aA hm with ⟨c4,hm⟩|⟨c4,hm⟩
   ·refine qT c4 ?_
    refine qG [] [10, 11, 49] [] [25006, 25010] [(25006, .cells 65 [.int .u64 m_1, .int .u64 (bH .or .u64 m_2 (IntKind.wrap .u64 ((1:Int) * 2 ^ min e1.Bit.toNat 64))), .own 702500602])] ?_
    exact qX (gd, m_1, bH .or .u64 m_2 (IntKind.wrap .u64 ((1:Int) * 2 ^ min e1.Bit.toNat 64)), m_3) hm
   refine qF c4 ?_
   refine qDs [] [11, 49] [(58, .bool (!decide (bH .andNot .u64 p.Bits ay = (0:Int))))] ?_
   rcases aA hm with ⟨c5,hm⟩|⟨c5,hm⟩
   ·refine qT c5 ?_
    refine qD [(5, .al 25012)] [58] [(12, .ptr 25012 0)] [] [(25012, .cells 72 [i6 e1.To, .aW, i6 p.Mode, i6 p.bQ, i6 p.Set, i6 p.Length, i6 p.TTL, i6 p.cv, i6 p.cw, i6 p.dx, .int .u64 p.Bits, .str p.cz])] ?_
    refine qD [] [] [] [25012] [(25012, .cells 72 [i6 e1.To, .aW, i6 p.Mode, i6 p.bQ, i6 p.Set, i6 p.Length, i6 (w64 (p.TTL - (1:Int))), i6 p.cv, i6 p.cw, i6 p.dx, .int .u64 (bH .andNot .u64 p.Bits ay), .str p.cz])] ?_
    obtain ⟨J2, hJ2, hm⟩ := cD hm
    refine A.J (J := J2) (r := r) (fun m_7 => [(1, i6 bW), (5, .ptr 25005 0), (6, .ptr 25006 0), (7, .own 600025007), (8, .int .u64 (bH .andNot .u64 p.Bits ay)), (10, .ptr 25010 0), (12, .ptr 25012 0), (20, lf ak e.List), (21, i6 (e.List.length:Int)), (22, i6 (j1 : Int))]) (fun m_7 => [(25005, .cells 36 (k7 p)), (25006, .cells 65 [.int .u64 m_1, .int .u64 m_2, .own 702500602]), (600025007, .slice 96 16 (ml cE gd) 0 false), (702500602, .slice 72 12 (ml lN m_3) 0 false), (25010, .cells 39 (k4 e1)), (25012, .cells 72 [i6 e1.To, .own 702501201, i6 p.Mode, i6 p.bQ, i6 p.Set, i6 p.Length, i6 (w64 (p.TTL - (1:Int))), i6 p.cv, i6 p.cw, i6 p.dx, .int .u64 (bH .andNot .u64 p.Bits ay), .str p.cz]), (702501201, .slice 3 1 (ml bx m_7) 0 false)]) ?_ ?_
    ·refine qDs [] [] [(78, .bool (decide (e1.Kind = (2:Int))))] ?_
     rcases aA hm with ⟨c6,hm⟩|⟨c6,hm⟩
     ·refine qT c6 ?_
      refine qG [(2, .al 25081)] [78] [] [25012] [(25012, .cells 72 [i6 e1.To, .own 25081, i6 p.Mode, i6 p.bQ, i6 p.Set, i6 p.Length, i6 (w64 (p.TTL - (1:Int))), i6 p.cv, i6 p.cw, i6 p.dx, .int .u64 (bH .andNot .u64 p.Bits ay), .str p.cz]), (25081, .slice 3 1 (ml bx ([e1.To] : List Int)) 0 false)] ?_
      exact Exists.intro ([e1.To] : List Int) (And.intro hm (bz.go [.sw 25081 702501201] [] (by kernel_rfl)))
     refine qF c6 ?_
     refine A.skip ?_
     exact Exists.intro [] (And.intro hm (bz.go [.ac 25012 702501201 3 1 1] [] (by kernel_rfl)))
    rintro m_7 hm
    rw [hJ2] at hm
    obtain ⟨l_1, h3, hm⟩ := af hm
    obtain ⟨l_2, h4, hm⟩ := af hm
    refine A.R W0 [.fz [702501201], .sc 25012 [25005, 25006, 600025007, 702500602, 25010, 25012]] [(4, hap 25588 (ap lN (bytes := 120) (by decide) h3)), (10, hap 25594 (ap cE (bytes := 152) (by decide) h4))] [(1, i6 bW), (5, .ptr 25005 0), (6, .ptr 25006 0), (7, .own 25594), (8, .int .u64 (bH .andNot .u64 p.Bits ay)), (20, lf ak e.List), (21, i6 (e.List.length:Int)), (22, i6 (j1 : Int))] [(25005, .cells 36 (k7 p)), (25006, .cells 65 [.int .u64 m_1, .int .u64 m_2, .own 25588]), (25588, .slice 72 12 (ml lN l_1) 0 false), (25594, .slice 96 16 (ml cE l_2) 0 false)] (by kernel_rfl) ?_
    exact Exists.intro (l_2, m_1, m_2, l_1) (And.intro hm (bz.go [.sw 25594 600025007, .sw 25588 702500602] [] (by kernel_rfl)))
   refine qF c5 ?_
   refine A.skip ?_
   exact qX (gd, m_1, m_2, m_3) hm
  rintro ⟨qs, m_4, m_5, m_6⟩ hm
  rw [hJ1] at hm
  refine qGs [(0, hto (inc hx1 hb1))] [22] [(22, i6 ((j1 + 1 : Nat) : Int))] ?_
  exact qX (qs, m_4, m_5, m_6) hm
 rintro j1 ⟨gd, m_1, m_2, m_3⟩ hj1 hl1 hm
 rw [hK1] at hm
 refine qDs [] [] [(23, .bool (decide ((j1 : Int) < (e.List.length:Int))))] ?_
 refine A.seq ?_
 refine qF (ltF hl1) ?_
 refine A.exit ?_
 show aj _ _ _ _ _
 refine qD [] [1, 5, 8, 20, 21, 22, 23] [] [25005] [] ?_
 refine A.ret ?_
 obtain rfl := some_inj hm
 exact A.fin W0 [.fz [702500602, 600025007]] rfl (by kernel_rfl)
theorem rN {e : aM} {bW : Int} {p : aS} {r : fI × Int} (hm : gL e bW p = some r) : RO Try.prog 15 [] [.agg (k5 e), i6 bW, .agg (k7 p)] (.tup [.agg (k8 r.1), i6 r.2]) := by
 refine bO Try.func15 rfl rfl ?_
 unfold gL at hm
 refine qS [(0, .al 15003), (1, .al 15005), (2, .al 15006)] [(1, i6 bW), (3, .ptr 15003 0), (5, .ptr 15005 0), (6, .ptr 15006 0)] [(15003, .cells 32 (k5 e)), (15005, .cells 36 (k7 p)), (15006, .cells 65 [.int .u64 (0:Int), .int .u64 (0:Int), .aW])] ?_
 refine A.seq ?_
 obtain ⟨J1, hJ1, hm⟩ := cD hm
 refine A.J (J := J1) (r := r) (fun v_1 => [(1, i6 bW), (3, .ptr 15003 0), (5, .ptr 15005 0), (6, .ptr 15006 0), (18, .bool v_1)]) (fun v_1 => [(15003, .cells 32 (k5 e)), (15005, .cells 36 (k7 p)), (15006, .cells 65 [.int .u64 (0:Int), .int .u64 (0:Int), .aW])]) ?_ ?_
 ·obtain ⟨ay, h1, hm⟩ := af hm
  rcases aA hm with ⟨c1,hm⟩|⟨c1,hm⟩
  ·refine qGs [(1, hro (fk h1) yC), (3, hto (bE c1))] [] [(18, .bool true)] ?_
   exact qX true hm
  obtain ⟨aV, h2, hm⟩ := af hm
  refine qGs [(1, hro (fk h1) yC), (3, hto (bE c1)), (5, hro (gP h2) yD)] [] [(18, .bool (!aV))] ?_
  exact qX (!aV) hm
 rintro v_1 hm
 rw [hJ1] at hm
 rcases aA hm with ⟨c2,hm⟩|⟨c2,hm⟩
 ·refine qT c2 ?_
  refine qD [] [1, 3, 5, 18] [(7, i6 1)] [15003, 15005] [] ?_
  cases hm
  exact A.ret qE
 refine qF c2 ?_
 refine A.skip ?_
 show aj _ _ _ _ _
 refine A.seq ?_
 obtain ⟨bu, h3, hm⟩ := af hm
 refine qDs [(2, hro (nP h3) an3)] [18] [(8, i6 bu)] ?_
 refine qDs [] [] [(24, .bool (!decide (bu = (0:Int))))] ?_
 rcases aA hm with ⟨c3,hm⟩|⟨c3,hm⟩
 ·refine qT c3 ?_
  refine qD [] [1, 3, 5, 8, 24] [(7, i6 bu)] [15003, 15005] [] ?_
  cases hm
  exact A.ret qE
 refine qF c3 ?_
 refine A.skip ?_
 show aj _ _ _ _ _
 obtain ⟨aK, h4, hm⟩ := af hm
 refine qD [(3, hro (ni h4) an4), (7, .al 15009)] [1, 3, 5, 8, 24] [(9, .ptr 15009 0)] [15003, 15005] [(15009, .cells 65 (k8 aK.1))] ?_
 refine qS [] [(6, .ptr 15006 0), (7, i6 0)] [(15006, .cells 65 (k8 aK.1))] ?_
 cases hm
 exact A.ret qE
theorem um {t : aa} {bW : Int} {a : ah} {r : (List Int) × Bool} (hm : gr t bW a = some r) : RO Try.prog 27 [] [.agg (k2 t), i6 bW, .agg (k4 a)] (.tup [lf bx r.1, .bool r.2]) := by
 refine bO Try.func27 rfl rfl ?_
 unfold gr at hm
 refine qS [(0, .al 27003), (1, .al 27005)] [(1, i6 bW), (3, .ptr 27003 0), (5, .ptr 27005 0)] [(27003, .cells 28 (k2 t)), (27005, .cells 39 (k4 a))] ?_
 refine A.seq ?_
 refine qDs [] [] [(13, .bool (decide (a.Kind = (2:Int))))] ?_
 rcases aA hm with ⟨c1,hm⟩|⟨c1,hm⟩
 ·refine qT c1 ?_
  obtain ⟨ay, h1, hm⟩ := af hm
  refine qS [(4, hro (uk h1) ck54)] [(8, lf bx ay)] [] ?_
  refine qS [(2, hto (lnE bx ay))] [(6, lf bx ay), (7, .bool (decide ((0:Int) < (ay.length:Int))))] [] ?_
  cases hm
  exact A.ret qE
 refine qF c1 ?_
 refine A.skip ?_
 show aj _ _ _ _ _
 obtain ⟨aV, h2, hm⟩ := af hm
 refine qD [(4, hro (uX h2) ck55)] [1, 3, 13] [(10, .bool aV.2)] [27003] [] ?_
 refine qS [] [(6, .lst true (ml bx ([a.To] : List Int))), (7, .bool aV.2)] [] ?_
 cases hm
 exact A.ret qE
theorem lV {e : aM} {t : aa} {p : aS} {bW : Int} {r : eF × Int} (hm : fO e t p bW = some r) : RO Try.prog 10 [] [.agg (k5 e), .agg (k2 t), .agg (k7 p), i6 bW] (.tup [.agg (k12 r.1), i6 r.2]) := by
 refine bO Try.func10 rfl rfl ?_
 unfold fO at hm
 refine qS [(0, .al 10004), (1, .al 10005), (2, .al 10006), (3, .al 10008)] [(3, i6 bW), (4, .ptr 10004 0), (5, .ptr 10005 0), (6, .ptr 10006 0), (8, .ptr 10008 0)] [(10004, .cells 32 (k5 e)), (10005, .cells 28 (k2 t)), (10006, .cells 36 (k7 p)), (10008, .cells 45 [.aW, .aW, .aW])] ?_
 refine A.seq ?_
 obtain ⟨J1, hJ1, hm⟩ := cD hm
 refine A.J (J := J1) (r := r) (fun v_1 => [(3, i6 bW), (4, .ptr 10004 0), (5, .ptr 10005 0), (6, .ptr 10006 0), (8, .ptr 10008 0), (37, .bool v_1)]) (fun v_1 => [(10004, .cells 32 (k5 e)), (10005, .cells 28 (k2 t)), (10006, .cells 36 (k7 p)), (10008, .cells 45 [.aW, .aW, .aW])]) ?_ ?_
 ·obtain ⟨ay, h1, hm⟩ := af hm
  rcases aA hm with ⟨c1,hm⟩|⟨c1,hm⟩
  ·refine qGs [(1, hro (fk h1) yC), (3, hto (bE c1))] [] [(37, .bool true)] ?_
   exact qX true hm
  obtain ⟨aV, h2, hm⟩ := af hm
  rcases aA hm with ⟨c2,hm⟩|⟨c2,hm⟩
  ·refine qGs [(1, hro (fk h1) yC), (3, hto (bE c1)), (5, hro (jv h2) ab4), (8, hto (bE c2))] [] [(37, .bool true)] ?_
   exact qX true hm
  obtain ⟨bu, h3, hm⟩ := af hm
  refine qGs [(1, hro (fk h1) yC), (3, hto (bE c1)), (5, hro (jv h2) ab4), (8, hto (bE c2)), (10, hro (gP h3) yD)] [] [(37, .bool (!bu))] ?_
  exact qX (!bu) hm
 rintro v_1 hm
 rw [hJ1] at hm
 rcases aA hm with ⟨c3,hm⟩|⟨c3,hm⟩
 ·refine qT c3 ?_
  refine qD [] [3, 4, 5, 6, 37] [(9, i6 1)] [10004, 10005, 10006] [] ?_
  cases hm
  exact A.ret qE
 refine qF c3 ?_
 refine A.skip ?_
 show aj _ _ _ _ _
 refine A.seq ?_
 obtain ⟨aK, h4, hm⟩ := af hm
 refine qDs [(2, hro (vV h4) ck23)] [37] [(42, .bool (!aK))] ?_
 rcases aA hm with ⟨c4,hm⟩|⟨c4,hm⟩
 ·refine qT c4 ?_
  refine qD [] [3, 4, 5, 6, 42] [(9, i6 4)] [10004, 10005, 10006] [] ?_
  cases hm
  exact A.ret qE
 refine qF c4 ?_
 refine A.skip ?_
 show aj _ _ _ _ _
 refine A.seq ?_
 obtain ⟨cO, h5, hm⟩ := af hm
 refine qDs [(2, hro (nP h5) an3)] [42] [(10, i6 cO)] ?_
 refine qDs [] [] [(48, .bool (!decide (cO = (0:Int))))] ?_
 rcases aA hm with ⟨c5,hm⟩|⟨c5,hm⟩
 ·refine qT c5 ?_
  refine qD [] [3, 4, 5, 6, 10, 48] [(9, i6 cO)] [10004, 10005, 10006] [] ?_
  cases hm
  exact A.ret qE
 refine qF c5 ?_
 refine A.skip ?_
 show aj _ _ _ _ _
 refine qD [(0, .al 10011)] [10, 48] [(11, .ptr 10011 0)] [] [(10011, .cells 45 [.aW, .aW, .aW])] ?_
 refine A.seq ?_
 refine qD [(3, .al 10054)] [3, 6] [(12, .own 10054)] [10006] [(10054, .slice 89 11 (ml cQ ([(aB.mk bW p)] : List aB)) 0 false)] ?_
 refine A.block ?_
 obtain ⟨F1, n1, hF1, hm⟩ := oT hm
 refine A.lpW (F := F1) hm (fun sg => match sg with | (jG, m_1, m_2, m_3) => [(4, .ptr 10004 0), (5, .ptr 10005 0), (8, .ptr 10008 0), (11, .ptr 10011 0), (12, .own 600010012)]) (fun sg => match sg with | (jG, m_1, m_2, m_3) => [(10004, .cells 32 (k5 e)), (10005, .cells 28 (k2 t)), (10008, .cells 45 [.aW, .aW, .aW]), (10011, .cells 45 [.own 701001100, .own 701001101, .own 701001102]), (600010012, .win 89 11 (ml cQ jG)), (701001100, .slice 59 11 (ml ck m_1) 0 false), (701001101, .slice 54 3 (ml cG m_2) 0 false), (701001102, .slice 62 2 (ml gl m_3) 0 false)]) ?_ ?_
 ·exact bz.go [.wi 10054, .sw 10054 600010012, .ac 10011 701001100 59 11 0, .ac 10011 701001101 54 3 1, .ac 10011 701001102 62 2 2] [] (by kernel_rfl)
 rintro Z1 ⟨jG, m_1, m_2, m_3⟩ hm
 rw [hF1] at hm
 refine A.seq ?_
 refine qDs [(1, hto (lnE cQ jG))] [] [(57, .bool (decide ((0:Int) < (jG.length:Int))))] ?_
 rcases aA hm with ⟨c6,hm⟩|⟨c6,hm⟩
 ·refine qT c6 ?_
  refine A.skip ?_
  show aj _ _ _ _ _
  refine A.seq ?_
  refine A.block ?_
  obtain ⟨e_1, h6, hm⟩ := af hm
  refine qD [(1, hix (ix cQ h6)), (3, .al 10013)] [57] [(13, .ptr 10013 0)] [] [(10013, .cells 89 (k13 e_1))] ?_
  obtain ⟨aU, h7, hm⟩ := af hm
  refine qD [(5, hro (ni h7) an4), (9, .al 10014)] [] [(14, .ptr 10014 0), (15, lf cE aU.2)] [] [(10014, .cells 65 (k8 aU.1))] ?_
  refine A.seq ?_
  refine qDs [(2, hto (lnE ak e.List))] [] [(73, lf ak e.List), (74, i6 (e.List.length:Int)), (75, i6 0)] ?_
  refine A.block ?_
  refine A.bS 73 rfl fun hb2 => ?_
  obtain ⟨B2, K2, hB2, hK2, hm⟩ := bN hm
  refine A.lpI (l := e.List) (j0 := 0) (B := B2) (K := K2) hm (fun j2 => fun m_4 => [(4, .ptr 10004 0), (5, .ptr 10005 0), (8, .ptr 10008 0), (11, .ptr 10011 0), (12, .own 600010012), (13, .ptr 10013 0), (14, .ptr 10014 0), (15, lf cE aU.2), (73, lf ak e.List), (74, i6 (e.List.length:Int)), (75, i6 (j2 : Int))]) (fun j2 => fun m_4 => [(10004, .cells 32 (k5 e)), (10005, .cells 28 (k2 t)), (10008, .cells 45 [.aW, .aW, .aW]), (10011, .cells 45 [.own 701001100, .own 701001101, .own 701001102]), (600010012, .win 89 11 (ml cQ jG)), (701001100, .slice 59 11 (ml ck m_4) 0 false), (701001101, .slice 54 3 (ml cG m_2) 0 false), (701001102, .slice 62 2 (ml gl m_3) 0 false), (10013, .cells 89 (k13 e_1)), (10014, .cells 65 (k8 aU.1))]) ?_ ?_ ?_
  ·exact qW
  ·rintro j2 e2 Z2 m_4 hj2 hx2 hm
   rw [hB2] at hm
   refine qDs [] [] [(76, .bool (decide ((j2 : Int) < (e.List.length:Int))))] ?_
   refine A.seq ?_
   refine qT (ltT hx2) ?_
   refine A.skip ?_
   show aj _ _ _ _ _
   obtain ⟨J2, hJ2, hm⟩ := cD hm
   refine A.J (J := J2) (r := r) (fun m_5 => [(4, .ptr 10004 0), (5, .ptr 10005 0), (8, .ptr 10008 0), (11, .ptr 10011 0), (12, .own 600010012), (13, .ptr 10013 0), (14, .ptr 10014 0), (15, lf cE aU.2), (73, lf ak e.List), (74, i6 (e.List.length:Int)), (75, i6 (j2 : Int))]) (fun m_5 => [(10004, .cells 32 (k5 e)), (10005, .cells 28 (k2 t)), (10008, .cells 45 [.aW, .aW, .aW]), (10011, .cells 45 [.own 701001100, .own 701001101, .own 701001102]), (600010012, .win 89 11 (ml cQ jG)), (701001100, .slice 59 11 (ml ck m_5) 0 false), (701001101, .slice 54 3 (ml cG m_2) 0 false), (701001102, .slice 62 2 (ml gl m_3) 0 false), (10013, .cells 89 (k13 e_1)), (10014, .cells 65 (k8 aU.1))]) ?_ ?_
   ·refine A.block ?_
    refine qD [(0, hix (ix ak (b8 hx2))), (2, .al 10017)] [76] [(17, .ptr 10017 0)] [] [(10017, .cells 39 (k4 e2))] ?_
    obtain ⟨h8, hm⟩ := eB hm
    refine qDs [(4, .sh e2.Bit (of_decide_eq_true h8))] [] [(85, .bool (decide (bH .and .u64 (Int.fdiv aU.1.Local (2 ^ min e2.Bit.toNat 64)) (1:Int) = (1:Int))))] ?_
    rcases aA hm with ⟨c7,hm⟩|⟨c7,hm⟩
    ·refine qT c7 ?_
     obtain ⟨dh, h9, hm⟩ := af hm
     obtain ⟨l_1, h10, hm⟩ := af hm
     refine qG [(8, hro (xg h9) ck26), (11, hap 10597 (ap ck (bytes := 96) (by decide) h10))] [17, 85] [] [10011, 701001100, 10017] [(10011, .cells 45 [.own 10597, .own 701001101, .own 701001102]), (10597, .slice 59 11 (ml ck l_1) 0 false)] ?_
     exact Exists.intro l_1 (And.intro hm (bz.go [.sw 10597 701001100] [] (by kernel_rfl)))
    refine qF c7 ?_
    refine A.skip ?_
    exact qX m_4 hm
   rintro m_5 hm
   rw [hJ2] at hm
   refine qGs [(0, hto (inc hx2 hb2))] [75] [(75, i6 ((j2 + 1 : Nat) : Int))] ?_
   exact qX m_5 hm
  rintro j2 m_4 hj2 hl2 hm
  rw [hK2] at hm
  refine qDs [] [] [(76, .bool (decide ((j2 : Int) < (e.List.length:Int))))] ?_
  refine A.seq ?_
  refine qF (ltF hl2) ?_
  refine A.exit ?_
  show aj _ _ _ _ _
  obtain ⟨J3, hJ3, hm⟩ := cD hm
  refine A.J (J := J3) (r := r) (fun m_6 => [(4, .ptr 10004 0), (5, .ptr 10005 0), (8, .ptr 10008 0), (11, .ptr 10011 0), (12, .own 600010012), (13, .ptr 10013 0), (15, lf cE aU.2)]) (fun m_6 => [(10004, .cells 32 (k5 e)), (10005, .cells 28 (k2 t)), (10008, .cells 45 [.aW, .aW, .aW]), (10011, .cells 45 [.own 701001100, .own 701001101, .own 701001102]), (600010012, .win 89 11 (ml cQ jG)), (701001100, .slice 59 11 (ml ck m_4) 0 false), (701001101, .slice 54 3 (ml cG m_2) 0 false), (701001102, .slice 62 2 (ml gl m_6) 0 false), (10013, .cells 89 (k13 e_1))]) ?_ ?_
  ·refine qDs [] [73, 74, 75, 76] [(102, .bool (!decide (aU.1.mg = (0:Int))))] ?_
   rcases aA hm with ⟨c8,hm⟩|⟨c8,hm⟩
   ·refine qT c8 ?_
    obtain ⟨l_2, h11, hm⟩ := af hm
    refine qG [(8, hap 10611 (ap gl (bytes := 16) (by decide) h11))] [14, 102] [] [10011, 701001102, 10014] [(10011, .cells 45 [.own 701001100, .own 701001101, .own 10611]), (10611, .slice 62 2 (ml gl l_2) 0 false)] ?_
    exact Exists.intro l_2 (And.intro hm (bz.go [.sw 10611 701001102] [] (by kernel_rfl)))
   refine qF c8 ?_
   refine A.skip ?_
   exact qX m_3 hm
  rintro m_6 hm
  rw [hJ3] at hm
  refine qDs [(1, hto (lnE cE aU.2))] [15] [(113, lf cE aU.2), (114, i6 (aU.2.length:Int)), (115, i6 0)] ?_
  refine A.block ?_
  refine A.bS 113 rfl fun hb3 => ?_
  obtain ⟨B3, K3, hB3, hK3, hm⟩ := bN hm
  refine A.lpI (l := aU.2) (j0 := 0) (B := B3) (K := K3) hm (fun j3 => fun sg => match sg with | (gf, m_7, m_8) => [(4, .ptr 10004 0), (5, .ptr 10005 0), (8, .ptr 10008 0), (11, .ptr 10011 0), (12, .own 600010012), (13, .ptr 10013 0), (113, lf cE aU.2), (114, i6 (aU.2.length:Int)), (115, i6 (j3 : Int))]) (fun j3 => fun sg => match sg with | (gf, m_7, m_8) => [(10004, .cells 32 (k5 e)), (10005, .cells 28 (k2 t)), (10008, .cells 45 [.aW, .aW, .aW]), (10011, .cells 45 [.own 701001100, .own 701001101, .own 701001102]), (600010012, .win 89 11 (ml cQ gf)), (701001100, .slice 59 11 (ml ck m_4) 0 false), (701001101, .slice 54 3 (ml cG m_7) 0 false), (701001102, .slice 62 2 (ml gl m_8) 0 false), (10013, .cells 89 (k13 e_1))]) ?_ ?_ ?_
  ·exact qW
  ·rintro j3 e3 Z3 ⟨gf, m_7, m_8⟩ hj3 hx3 hm
   rw [hB3] at hm
   refine qDs [] [] [(116, .bool (decide ((j3 : Int) < (aU.2.length:Int))))] ?_
   refine A.seq ?_
   refine qT (ltT hx3) ?_
   refine A.skip ?_
   show aj _ _ _ _ _
   obtain ⟨J4, hJ4, hm⟩ := cD hm
   refine A.J (J := J4) (r := r) (fun sg => match sg with | (lR, m_9, fZ) => [(4, .ptr 10004 0), (5, .ptr 10005 0), (8, .ptr 10008 0), (11, .ptr 10011 0), (12, .own 600010012), (13, .ptr 10013 0), (113, lf cE aU.2), (114, i6 (aU.2.length:Int)), (115, i6 (j3 : Int))]) (fun sg => match sg with | (lR, m_9, fZ) => [(10004, .cells 32 (k5 e)), (10005, .cells 28 (k2 t)), (10008, .cells 45 [.aW, .aW, .aW]), (10011, .cells 45 [.own 701001100, .own 701001101, .own 701001102]), (600010012, .win 89 11 (ml cQ lR)), (701001100, .slice 59 11 (ml ck m_4) 0 false), (701001101, .slice 54 3 (ml cG m_9) 0 false), (701001102, .slice 62 2 (ml gl fZ) 0 false), (10013, .cells 89 (k13 e_1))]) ?_ ?_
   ·refine A.block ?_
    refine qD [(0, hix (ix cE (b8 hx3))), (2, .al 10019)] [116] [(19, .ptr 10019 0)] [] [(10019, .cells 96 (k9 e3))] ?_
    obtain ⟨de, h12, hm⟩ := af hm
    refine qDs [(5, hro (um h12) ck27)] [] [(20, lf bx de.1), (21, .bool de.2)] ?_
    refine A.seq ?_
    refine qDs [] [21] [(129, .bool (!de.2))] ?_
    rcases aA hm with ⟨c9,hm⟩|⟨c9,hm⟩
    ·refine qT c9 ?_
     obtain ⟨h13, hm⟩ := eB hm
     obtain ⟨l_3, h14, hm⟩ := af hm
     refine qD [(7, .sh e3.eE.Bit (of_decide_eq_true h13)), (10, hap 10640 (ap gl (bytes := 16) (by decide) h14))] [129] [] [10011, 701001102] [(10011, .cells 45 [.own 701001100, .own 701001101, .own 10640]), (10640, .slice 62 2 (ml gl l_3) 0 false)] ?_
     refine A.exit ?_
     exact Exists.intro (gf, m_7, l_3) (And.intro hm (bz.go [.sw 10640 701001102] [] (by kernel_rfl)))
    refine qF c9 ?_
    refine A.skip ?_
    show aj _ _ _ _ _
    refine qDs [] [129] [(22, i6 e_1.bq)] ?_
    refine A.seq ?_
    refine qDs [(1, hto (lnE bx de.1))] [20] [(144, lf bx de.1), (145, i6 (de.1.length:Int)), (146, i6 0)] ?_
    refine A.block ?_
    refine A.bS 144 rfl fun hb4 => ?_
    obtain ⟨B4, K4, hB4, hK4, hm⟩ := bN hm
    refine A.lpI (l := de.1) (j0 := 0) (B := B4) (K := K4) hm (fun j4 => fun sg => match sg with | (gh, en) => [(4, .ptr 10004 0), (5, .ptr 10005 0), (8, .ptr 10008 0), (11, .ptr 10011 0), (12, .own 600010012), (13, .ptr 10013 0), (19, .ptr 10019 0), (22, i6 gh), (113, lf cE aU.2), (114, i6 (aU.2.length:Int)), (115, i6 (j3 : Int)), (144, lf bx de.1), (145, i6 (de.1.length:Int)), (146, i6 (j4 : Int))]) (fun j4 => fun sg => match sg with | (gh, en) => [(10004, .cells 32 (k5 e)), (10005, .cells 28 (k2 t)), (10008, .cells 45 [.aW, .aW, .aW]), (10011, .cells 45 [.own 701001100, .own 701001101, .own 701001102]), (600010012, .win 89 11 (ml cQ gf)), (701001100, .slice 59 11 (ml ck m_4) 0 false), (701001101, .slice 54 3 (ml cG en) 0 false), (701001102, .slice 62 2 (ml gl m_8) 0 false), (10013, .cells 89 (k13 e_1)), (10019, .cells 96 (k9 e3))]) ?_ ?_ ?_
    ·exact qW
    ·rintro j4 e4 Z4 ⟨gh, en⟩ hj4 hx4 hm
     rw [hB4] at hm
     refine qDs [] [] [(147, .bool (decide ((j4 : Int) < (de.1.length:Int))))] ?_
     refine A.seq ?_
     refine qT (ltT hx4) ?_
     refine A.skip ?_
     show aj _ _ _ _ _
     refine A.seq ?_
     refine A.block ?_
     refine qDs [(0, hix (ix bx (b8 hx4)))] [147] [(24, i6 e4)] ?_
     obtain ⟨l_4, h15, hm⟩ := af hm
     refine qD [(11, hap 10661 (ap cG (bytes := 24) (by decide) h15))] [22] [] [10011, 701001101] [(10011, .cells 45 [.own 701001100, .own 10661, .own 701001102]), (10661, .slice 54 3 (ml cG l_4) 0 false)] ?_
     refine qGs [] [24] [(22, i6 e4)] ?_
     show aj _ _ _ _ _
     refine qGs [(0, hto (inc hx4 hb4))] [146] [(146, i6 ((j4 + 1 : Nat) : Int))] ?_
     exact Exists.intro (e4, l_4) (And.intro hm (bz.go [.sw 10661 701001101] [] (by kernel_rfl)))
    rintro j4 ⟨gh, en⟩ hj4 hl4 hm
    rw [hK4] at hm
    refine qDs [] [] [(147, .bool (decide ((j4 : Int) < (de.1.length:Int))))] ?_
    refine A.seq ?_
    refine qF (ltF hl4) ?_
    refine A.exit ?_
    show aj _ _ _ _ _
    refine A.seq ?_
    refine qDs [(2, hto (lnE cG en))] [144, 145, 146, 147] [(168, .bool (decide ((2000:Int) < (en.length:Int))))] ?_
    rcases aA hm with ⟨c10,hm⟩|⟨c10,hm⟩
    ·refine qT c10 ?_
     refine qS [] [(8, .ptr 10008 0), (9, i6 11)] [(10008, .cells 45 [.aW, .aW, .aW])] ?_
     cases hm
     exact A.ret qE
    refine qF c10 ?_
    refine A.skip ?_
    show aj _ _ _ _ _
    obtain ⟨l_5, h16, hm⟩ := af hm
    refine qG [(8, hap 10678 (ap cQ (bytes := 96) (by decide) h16))] [12, 19, 22, 168] [(12, .own 10678)] [600010012, 10019] [(10678, .win 89 11 (ml cQ l_5))] ?_
    exact Exists.intro (l_5, en, m_8) (And.intro hm (bz.go [.sw 10678 600010012] [] (by kernel_rfl)))
   rintro ⟨lR, m_9, fZ⟩ hm
   rw [hJ4] at hm
   refine qGs [(0, hto (inc hx3 hb3))] [115] [(115, i6 ((j3 + 1 : Nat) : Int))] ?_
   exact qX (lR, m_9, fZ) hm
  rintro j3 ⟨gf, m_7, m_8⟩ hj3 hl3 hm
  rw [hK3] at hm
  refine qDs [] [] [(116, .bool (decide ((j3 : Int) < (aU.2.length:Int))))] ?_
  refine A.seq ?_
  refine qF (ltF hl3) ?_
  refine A.exit ?_
  show aj _ _ _ _ _
  obtain ⟨l_6, h17, hm⟩ := af hm
  refine qG [(1, hws 10559 (slE2 cQ h17))] [12, 13, 113, 114, 115, 116] [(12, .own 10559)] [600010012, 10013] [(10559, .win 89 11 (ml cQ l_6))] ?_
  exact Exists.intro (l_6, m_4, m_7, m_8) (And.intro hm (bz.go [.sw 10559 600010012] [] (by kernel_rfl)))
 refine qF c6 ?_
 refine A.exit ?_
 show aj _ _ _ _ _
 refine qD [] [4, 5, 11, 12, 57] [(9, i6 0)] [10004, 10005, 10008, 10011, 600010012] [(10008, .cells 45 [.own 701001100, .own 701001101, .own 701001102])] ?_
 refine A.ret ?_
 obtain rfl := some_inj hm
 exact A.fin W0 [.fz [701001100, 701001101, 701001102]] rfl (by kernel_rfl)
end Go.Proofs.Ytdjeacigeegklaa
