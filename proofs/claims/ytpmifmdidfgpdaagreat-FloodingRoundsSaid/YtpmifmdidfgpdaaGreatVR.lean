/- The eC of cr of the program. No condition but bT bB stand in each. -/
import Derived.Test.YtpmifmdidfgpdaaGreatDA
namespace Go.Proofs.YtpmifmdidfgpdaaGreat
open Go
set_option maxRecDepth 100000
set_option linter.all false
theorem vl {l : List Int} {i : Int} {r : Int} (hm : jY l i = some r) : RO Tryz.prog 200 [] [lf (eK .u8) l, i6 i] (.int .u64 r) := by
 refine aT Tryz.func200 rfl rfl ?_
 unfold jY at hm
 refine qS [] [(0, lf (eK .u8) l), (1, i6 i)] [] ?_
 obtain ⟨e_1, h1, hm⟩ := aa hm
 obtain ⟨h2, hm⟩ := eV hm
 refine qS [(2, .qr (8:Int) (by decide)), (3, hix (ix (eK .u8) h1)), (6, .qr (8:Int) (by decide)), (9, .sh (IntKind.wrap .u64 (w64 ((7:Int) - (Int.tmod i (8:Int))))) (of_decide_eq_true h2))] [(4, .int .u64 (cS .and .u64 (IntKind.wrap .u64 (Int.fdiv e_1 (2 ^ min (IntKind.wrap .u64 (w64 ((7:Int) - (Int.tmod i (8:Int))))).toNat 8))) (1:Int)))] [] ?_
 cases hm
 exact A.ret qE
theorem pN {sa0 : aZ} {r : Bool} (hm : jH sa0 = some r) : RO Tryz.prog 199 [] [.agg [lf (eK .u8) sa0.Data, i6 sa0.Bits]] (.bool r) := by
 refine aT Tryz.func199 rfl rfl ?_
 unfold jH at hm
 refine qS [(0, .al 199001)] [(1, .ptr 199001 0)] [(199001, .cells 201 [lf (eK .u8) sa0.Data, i6 sa0.Bits])] ?_
 refine A.seq ?_
 refine A.mid [(1, .ptr 199001 0), (21, .bool ((decide (sa0.Bits < (0:Int))) || ((decide ((8192:Int) < sa0.Bits)) || (!decide ((sa0.Data.length:Int) = w64 (Int.tdiv (w64 (sa0.Bits + (7:Int))) (8:Int)))))))] [(199001, .cells 201 [lf (eK .u8) sa0.Data, i6 sa0.Bits])] (fun hk => ?_) ?_
 ·rcases tf (decide (sa0.Bits < (0:Int))) with c1 | c1
  ·exact qS [(3, hto (bE c1)), (17, hto (orT (q := ((decide ((8192:Int) < sa0.Bits)) || (!decide ((sa0.Data.length:Int) = w64 (Int.tdiv (w64 (sa0.Bits + (7:Int))) (8:Int)))))) c1))] _ _ hk
  rcases tf (decide ((8192:Int) < sa0.Bits)) with c2 | c2
  ·exact qS [(3, hto (bE c1)), (8, hto (bE c2)), (17, hto ((orT (q := !decide ((sa0.Data.length:Int) = w64 (Int.tdiv (w64 (sa0.Bits + (7:Int))) (8:Int)))) c2).trans (orF (q := ((decide ((8192:Int) < sa0.Bits)) || (!decide ((sa0.Data.length:Int) = w64 (Int.tdiv (w64 (sa0.Bits + (7:Int))) (8:Int)))))) c1)))] _ _ hk
  exact qS [(3, hto (bE c1)), (8, hto (bE c2)), (11, hto (lnE (eK .u8) sa0.Data)), (15, .qr (8:Int) (by decide)), (17, hto ((orF (q := !decide ((sa0.Data.length:Int) = w64 (Int.tdiv (w64 (sa0.Bits + (7:Int))) (8:Int)))) c2).trans (orF (q := ((decide ((8192:Int) < sa0.Bits)) || (!decide ((sa0.Data.length:Int) = w64 (Int.tdiv (w64 (sa0.Bits + (7:Int))) (8:Int)))))) c1)))] _ _ hk
 rcases ai hm with ⟨c3,hm⟩|⟨c3,hm⟩
 ·refine qT c3 ?_
  refine qS [] [(2, .bool false)] [] ?_
  cases hm
  exact A.ret qE
 refine qF c3 ?_
 refine A.skip ?_
 show ah _ _ _ _ _
 refine A.seq ?_
 refine qDs [] [21] [(3, i6 sa0.Bits)] ?_
 refine A.block ?_
 obtain ⟨F1, n1, hF1, hm⟩ := fC hm
 refine A.lpW (F := F1) hm (fun i_1 => [(1, .ptr 199001 0), (3, i6 i_1)]) (fun i_1 => [(199001, .cells 201 [lf (eK .u8) sa0.Data, i6 sa0.Bits])]) ?_ ?_
 ·exact qW
 rintro Z1 i_1 hm
 rw [hF1] at hm
 refine A.seq ?_
 refine qDs [(3, hto (lnE (eK .u8) sa0.Data))] [] [(29, .bool (decide (i_1 < w64 ((8:Int) * (sa0.Data.length:Int)))))] ?_
 rcases ai hm with ⟨c4,hm⟩|⟨c4,hm⟩
 ·refine qT c4 ?_
  refine A.skip ?_
  show ah _ _ _ _ _
  refine A.seq ?_
  refine A.block ?_
  obtain ⟨af, h1, hm⟩ := aa hm
  refine qDs [(3, hro (vl h1) ajw)] [29] [(36, .bool (!decide (af = (0:Int))))] ?_
  rcases ai hm with ⟨c5,hm⟩|⟨c5,hm⟩
  ·refine qT c5 ?_
   refine qS [] [(2, .bool false)] [] ?_
   cases hm
   exact A.ret qE
  refine qF c5 ?_
  refine A.skip ?_
  show ah _ _ _ _ _
  refine qGs [] [3, 36] [(3, i6 (w64 (i_1 + (1:Int))))] ?_
  exact qX (w64 (i_1 + (1:Int))) hm
 refine qF c4 ?_
 refine A.exit ?_
 show ah _ _ _ _ _
 refine qS [] [(2, .bool true)] [] ?_
 cases hm
 exact A.ret qE
theorem vm {sa0 : aZ} {b : Int} {r : aZ} (hm : nG sa0 b = some r) : RO Tryz.prog 201 [] [.agg [lf (eK .u8) sa0.Data, i6 sa0.Bits], .int .u64 b] (.agg [lf (eK .u8) r.Data, i6 r.Bits]) := by
 refine aT Tryz.func201 rfl rfl ?_
 unfold nG at hm
 refine qS [(0, .al 201002), (1, .al 201004)] [(1, .int .u64 b), (2, .ptr 201002 0), (4, .ptr 201004 0)] [(201002, .cells 201 [lf (eK .u8) sa0.Data, i6 sa0.Bits]), (201004, .cells 201 [.aG, i6 0])] ?_
 refine qDs [] [] [(5, .aG)] ?_
 obtain ⟨l_1, h1, hm⟩ := aa hm
 refine qD [(3, hap 201509 (ap (eK .u8) (bytes := 1) (by decide) h1))] [5] [(5, .own 201509)] [] [(201509, .slice 5 1 (ml (eK .u8) l_1) 0 false)] ?_
 obtain ⟨J1, hJ1, hm⟩ := bJ hm
 refine A.J (J := J1) (r := r) (fun l_2 => [(1, .int .u64 b), (2, .ptr 201002 0), (4, .ptr 201004 0), (5, .own 600201005)]) (fun l_2 => [(201002, .cells 201 [lf (eK .u8) sa0.Data, i6 sa0.Bits]), (201004, .cells 201 [.aG, i6 0]), (600201005, .slice 5 1 (ml (eK .u8) l_2) 0 false)]) ?_ ?_
 ·refine qDs [(2, .qr (8:Int) (by decide))] [] [(13, .bool (decide (Int.tmod sa0.Bits (8:Int) = (0:Int))))] ?_
  rcases ai hm with ⟨c1,hm⟩|⟨c1,hm⟩
  ·refine qT c1 ?_
   obtain ⟨l_3, h2, hm⟩ := aa hm
   refine qG [(2, hap 201516 (ap (eK .u8) (bytes := 1) (by decide) h2))] [5, 13] [(5, .own 201516)] [201509] [(201516, .slice 5 1 (ml (eK .u8) l_3) 0 false)] ?_
   exact Exists.intro l_3 (And.intro hm (bA.go [.sw 201516 600201005] [] (by kernel_rfl)))
  refine qF c1 ?_
  refine A.skip ?_
  exact Exists.intro l_1 (And.intro hm (bA.go [.sw 201509 600201005] [] (by kernel_rfl)))
 rintro l_2 hm
 rw [hJ1] at hm
 obtain ⟨J2, hJ2, hm⟩ := bJ hm
 refine A.J (J := J2) (r := r) (fun l_4 => [(2, .ptr 201002 0), (4, .ptr 201004 0), (5, .own 600201005)]) (fun l_4 => [(201002, .cells 201 [lf (eK .u8) sa0.Data, i6 sa0.Bits]), (201004, .cells 201 [.aG, i6 0]), (600201005, .slice 5 1 (ml (eK .u8) l_4) 0 false)]) ?_ ?_
 ·refine qDs [] [1] [(18, .bool (decide (b = (1:Int))))] ?_
  rcases ai hm with ⟨c2,hm⟩|⟨c2,hm⟩
  ·refine qT c2 ?_
   obtain ⟨e_1, h3, hm⟩ := aa hm
   obtain ⟨h4, hm⟩ := eV hm
   obtain ⟨l_5, h5, hm⟩ := aa hm
   refine qG [(3, .qr (8:Int) (by decide)), (4, hix (ix (eK .u8) h3)), (5, hlo 600201005 0 (ix (eK .u8) h3)), (8, .qr (8:Int) (by decide)), (11, .sh (IntKind.wrap .u64 (w64 ((7:Int) - (Int.tmod sa0.Bits (8:Int))))) (of_decide_eq_true h4)), (13, hix (ix (eK .u8) h3)), (14, hso 600201005 (st (eK .u8) (off := 0) (ca := [.int .u8 (cS .or .u8 e_1 (IntKind.wrap .u8 ((1:Int) * 2 ^ min (IntKind.wrap .u64 (w64 ((7:Int) - (Int.tmod sa0.Bits (8:Int))))).toNat 8)))]) h3 h5 rfl) (iM h3).1.1)] [18] [] [600201005] [(600201005, .slice 5 1 (ml (eK .u8) l_5) 0 false)] ?_
   exact qX l_5 hm
  refine qF c2 ?_
  refine A.skip ?_
  exact qX l_2 hm
 rintro l_4 hm
 rw [hJ2] at hm
 refine qD [] [2, 5] [] [201002, 201004] [(201004, .cells 201 [.own 600201005, i6 (w64 (sa0.Bits + (1:Int)))])] ?_
 refine A.ret ?_
 obtain rfl := some_inj hm
 exact A.fin W0 [.fz [600201005]] rfl (by kernel_rfl)
theorem yg {sa0 : aZ} {value : Int} {n : Int} {r : aZ × Int} (hm : mz sa0 value n = some r) : RO Tryz.prog 198 [] [.agg [lf (eK .u8) sa0.Data, i6 sa0.Bits], .int .u64 value, i6 n] (.tup [.agg [lf (eK .u8) r.1.Data, i6 r.1.Bits], i6 r.2]) := by
 refine aT Tryz.func198 rfl rfl ?_
 unfold mz at hm
 refine qS [(0, .al 198003), (1, .al 198006)] [(1, .int .u64 value), (2, i6 n), (3, .ptr 198003 0), (6, .ptr 198006 0)] [(198003, .cells 201 [lf (eK .u8) sa0.Data, i6 sa0.Bits]), (198006, .cells 201 [.aG, i6 0])] ?_
 refine A.seq ?_
 obtain ⟨af, h1, hm⟩ := aa hm
 refine qDs [(1, hro (pN h1) aeg)] [] [(11, .bool (!af))] ?_
 rcases ai hm with ⟨c1,hm⟩|⟨c1,hm⟩
 ·refine qT c1 ?_
  refine qD [] [1, 2, 3, 11] [(7, i6 1)] [198003] [] ?_
  cases hm
  exact A.ret qE
 refine qF c1 ?_
 refine A.skip ?_
 show ah _ _ _ _ _
 refine A.seq ?_
 obtain ⟨J1, hJ1, hm⟩ := bJ hm
 refine A.J (J := J1) (r := r) (fun v_1 => [(1, .int .u64 value), (2, i6 n), (3, .ptr 198003 0), (6, .ptr 198006 0), (29, .bool v_1)]) (fun v_1 => [(198003, .cells 201 [lf (eK .u8) sa0.Data, i6 sa0.Bits]), (198006, .cells 201 [.aG, i6 0])]) ?_ ?_
 ·rcases ai hm with ⟨c2,hm⟩|⟨c2,hm⟩
  ·refine qGs [(2, hto (bE c2))] [11] [(29, .bool true)] ?_
   exact qX true hm
  rcases ai hm with ⟨c3,hm⟩|⟨c3,hm⟩
  ·refine qGs [(2, hto (bE c2)), (6, hto (bE c3))] [11] [(29, .bool true)] ?_
   exact qX true hm
  rcases ai hm with ⟨c4,hm⟩|⟨c4,hm⟩
  ·obtain ⟨h2, hm⟩ := eV hm
   refine qGs [(2, hto (bE c2)), (6, hto (bE c3)), (9, hto (bE c4)), (13, .sh (IntKind.wrap .u64 n) (of_decide_eq_true h2))] [11] [(29, .bool (!decide (Int.fdiv value (2 ^ min (IntKind.wrap .u64 n).toNat 64) = (0:Int))))] ?_
   exact qX (!decide (Int.fdiv value (2 ^ min (IntKind.wrap .u64 n).toNat 64) = (0:Int))) hm
  refine qGs [(2, hto (bE c2)), (6, hto (bE c3)), (9, hto (bE c4))] [11] [(29, .bool false)] ?_
  exact qX false hm
 rintro v_1 hm
 rw [hJ1] at hm
 rcases ai hm with ⟨c5,hm⟩|⟨c5,hm⟩
 ·refine qT c5 ?_
  refine qD [] [1, 2, 3, 29] [(7, i6 2)] [198003] [] ?_
  cases hm
  exact A.ret qE
 refine qF c5 ?_
 refine A.skip ?_
 show ah _ _ _ _ _
 refine A.seq ?_
 refine qDs [] [29] [(35, .bool (decide ((8192:Int) < w64 (sa0.Bits + n))))] ?_
 rcases ai hm with ⟨c6,hm⟩|⟨c6,hm⟩
 ·refine qT c6 ?_
  refine qD [] [1, 2, 3, 35] [(7, i6 3)] [198003] [] ?_
  cases hm
  exact A.ret qE
 refine qF c6 ?_
 refine A.skip ?_
 show ah _ _ _ _ _
 refine A.seq ?_
 refine qDs [] [2, 35] [(8, i6 (w64 (n - (1:Int))))] ?_
 refine A.block ?_
 obtain ⟨F1, n1, hF1, hm⟩ := fC hm
 refine A.lpW (F := F1) hm (fun sg => match sg with | (i_1, m_1, m_2) => [(1, .int .u64 value), (3, .ptr 198003 0), (6, .ptr 198006 0), (8, i6 i_1)]) (fun sg => match sg with | (i_1, m_1, m_2) => [(198003, .cells 201 [lf (eK .u8) m_1, i6 m_2]), (198006, .cells 201 [.aG, i6 0])]) ?_ ?_
 ·exact qW
 rintro Z1 ⟨i_1, m_1, m_2⟩ hm
 rw [hF1] at hm
 refine A.seq ?_
 refine qDs [] [] [(40, .bool (decide ((0:Int) ≤ i_1)))] ?_
 rcases ai hm with ⟨c7,hm⟩|⟨c7,hm⟩
 ·refine qT c7 ?_
  refine A.skip ?_
  show ah _ _ _ _ _
  refine A.seq ?_
  refine A.block ?_
  obtain ⟨h3, hm⟩ := eV hm
  obtain ⟨ay, h4, hm⟩ := aa hm
  refine qG [(4, .sh (IntKind.wrap .u64 i_1) (of_decide_eq_true h3)), (6, hro (vm h4) ajx)] [40] [] [198003] [(198003, .cells 201 [lf (eK .u8) ay.Data, i6 ay.Bits])] ?_
  show ah _ _ _ _ _
  refine qGs [] [8] [(8, i6 (w64 (i_1 - (1:Int))))] ?_
  exact qX (w64 (i_1 - (1:Int)), ay.Data, ay.Bits) hm
 refine qF c7 ?_
 refine A.exit ?_
 show ah _ _ _ _ _
 refine qS [] [(6, .ptr 198006 0), (7, i6 0)] [(198006, .cells 201 [lf (eK .u8) m_1, i6 m_2])] ?_
 cases hm
 exact A.ret qE
theorem zg {sa0 : aZ} {r : aZ × Int} (hm : nx sa0 = some r) : RO Tryz.prog 188 [] [.agg [lf (eK .u8) sa0.Data, i6 sa0.Bits]] (.tup [.agg [lf (eK .u8) r.1.Data, i6 r.1.Bits], i6 r.2]) := by
 refine aT Tryz.func188 rfl rfl ?_
 unfold nx at hm
 refine qS [(0, .al 188001), (1, .al 188002)] [(1, .ptr 188001 0), (2, .ptr 188002 0)] [(188001, .cells 201 [lf (eK .u8) sa0.Data, i6 sa0.Bits]), (188002, .cells 201 [.aG, i6 0])] ?_
 refine A.seq ?_
 obtain ⟨af, h1, hm⟩ := aa hm
 refine qDs [(1, hro (pN h1) aeg)] [] [(6, .bool (!af))] ?_
 rcases ai hm with ⟨c1,hm⟩|⟨c1,hm⟩
 ·refine qT c1 ?_
  refine qD [] [1, 6] [(3, i6 1)] [188001] [] ?_
  cases hm
  exact A.ret qE
 refine qF c1 ?_
 refine A.skip ?_
 show ah _ _ _ _ _
 refine A.seq ?_
 refine A.block ?_
 obtain ⟨F1, n1, hF1, hm⟩ := fC hm
 refine A.lpW (F := F1) hm (fun sg => match sg with | (m_1, m_2) => [(1, .ptr 188001 0), (2, .ptr 188002 0)]) (fun sg => match sg with | (m_1, m_2) => [(188001, .cells 201 [lf (eK .u8) m_1, i6 m_2]), (188002, .cells 201 [.aG, i6 0])]) ?_ ?_
 ·exact qW
 rintro Z1 ⟨m_1, m_2⟩ hm
 rw [hF1] at hm
 refine A.seq ?_
 refine qDs [(2, .qr (8:Int) (by decide))] [] [(11, .bool (!decide (Int.tmod m_2 (8:Int) = (0:Int))))] ?_
 rcases ai hm with ⟨c2,hm⟩|⟨c2,hm⟩
 ·refine qT c2 ?_
  refine A.skip ?_
  show ah _ _ _ _ _
  refine A.block ?_
  obtain ⟨ay, h2, hm⟩ := aa hm
  refine qG [(1, hro (vm h2) ajx)] [11] [] [188001] [(188001, .cells 201 [lf (eK .u8) ay.Data, i6 ay.Bits])] ?_
  exact qX (ay.Data, ay.Bits) hm
 refine qF c2 ?_
 refine A.exit ?_
 show ah _ _ _ _ _
 refine qS [] [(2, .ptr 188002 0), (3, i6 0)] [(188002, .cells 201 [lf (eK .u8) m_1, i6 m_2])] ?_
 cases hm
 exact A.ret qE
theorem zh {sa0 : aZ} {r : Int × Int} (hm : iz sa0 = some r) : RO Tryz.prog 187 [] [.agg [lf (eK .u8) sa0.Data, i6 sa0.Bits]] (.tup [.int .u64 r.1, i6 r.2]) := by
 refine aT Tryz.func187 rfl rfl ?_
 unfold iz at hm
 refine qS [(0, .al 187001)] [(1, .ptr 187001 0)] [(187001, .cells 201 [lf (eK .u8) sa0.Data, i6 sa0.Bits])] ?_
 refine A.seq ?_
 obtain ⟨af, h1, hm⟩ := aa hm
 refine qDs [(1, hro (pN h1) aeg)] [] [(9, .bool (!af))] ?_
 rcases ai hm with ⟨c1,hm⟩|⟨c1,hm⟩
 ·refine qT c1 ?_
  refine qS [] [(2, .int .u64 (0:Int)), (3, i6 1)] [] ?_
  cases hm
  exact A.ret qE
 refine qF c1 ?_
 refine A.skip ?_
 show ah _ _ _ _ _
 refine qDs [] [9] [(4, .int .u64 (65535:Int))] ?_
 refine A.seq ?_
 refine qDs [] [] [(5, i6 0)] ?_
 refine A.block ?_
 obtain ⟨hh1, hm⟩ := eV hm
 obtain ⟨B1, K1, hB1, hK1, hm⟩ := jg hm
 refine A.lpN (hi := sa0.Bits) (B := B1) (K := K1) hm rfl (fun j1 => fun og => [(1, .ptr 187001 0), (4, .int .u64 og), (5, i6 (j1 : Int))]) (fun j1 => fun og => [(187001, .cells 201 [lf (eK .u8) sa0.Data, i6 sa0.Bits])]) ?_ ?_ ?_
 ·exact qW
 ·rintro j1 Z1 og hj1 hx1 hm
  rw [hB1] at hm
  refine A.seq ?_
  refine qDs [] [] [(13, .bool (decide ((j1 : Int) < sa0.Bits)))] ?_
  refine A.cT rfl (decide_eq_true hx1) ?_
  refine A.skip ?_
  show ah _ _ _ _ _
  obtain ⟨J1, hJ1, hm⟩ := bJ hm
  refine A.J (J := J1) (r := r) (fun aaB => [(1, .ptr 187001 0), (4, .int .u64 aaB), (5, i6 (j1 : Int))]) (fun aaB => [(187001, .cells 201 [lf (eK .u8) sa0.Data, i6 sa0.Bits])]) ?_ ?_
  ·refine A.block ?_
   refine qDs [(1, .sh (15:Int) (by decide))] [13] [(6, .int .u64 (Int.fdiv og (2 ^ min (15:Int).toNat 64)))] ?_
   refine qDs [(1, .sh (1:Int) (by decide))] [4] [(4, .int .u64 (cS .and .u64 (IntKind.wrap .u64 (og * 2 ^ min (1:Int).toNat 64)) (65535:Int)))] ?_
   obtain ⟨ay, h2, hm⟩ := aa hm
   refine qDs [(4, hro (vl h2) ajw)] [6] [(26, .bool (!decide (Int.fdiv og (2 ^ min (15:Int).toNat 64) = ay)))] ?_
   rcases ai hm with ⟨c2,hm⟩|⟨c2,hm⟩
   ·refine qT c2 ?_
    refine qGs [] [4, 26] [(4, .int .u64 (cS .xor .u64 (cS .and .u64 (IntKind.wrap .u64 (og * 2 ^ min (1:Int).toNat 64)) (65535:Int)) (4129:Int)))] ?_
    exact qX (cS .xor .u64 (cS .and .u64 (IntKind.wrap .u64 (og * 2 ^ min (1:Int).toNat 64)) (65535:Int)) (4129:Int)) hm
   refine qF c2 ?_
   refine A.skip ?_
   exact qX (cS .and .u64 (IntKind.wrap .u64 (og * 2 ^ min (1:Int).toNat 64)) (65535:Int)) hm
  rintro aaB hm
  rw [hJ1] at hm
  refine qGs [(1, hto (tL (by omega) hx1 (of_decide_eq_true hh1)))] [5] [(5, i6 (j1 + 1 : Int))] ?_
  exact qX aaB hm
 rintro j1 og hj1 hl1 hm
 rw [hK1] at hm
 refine A.seq ?_
 refine qDs [] [] [(13, .bool (decide ((j1 : Int) < sa0.Bits)))] ?_
 refine A.cF rfl (geF hl1) ?_
 refine A.exit ?_
 show ah _ _ _ _ _
 refine qS [] [(2, .int .u64 og), (3, i6 0)] [] ?_
 cases hm
 exact A.ret qE
theorem zS {length : Int} {r : Int} (hm : oh length = some r) : RO Tryz.prog 186 [] [i6 length] (i6 r) := by
 refine aT Tryz.func186 rfl rfl ?_
 unfold oh at hm
 refine qS [] [(0, i6 length)] [] ?_
 refine qDs [] [] [(3, i6 0)] ?_
 refine A.seq ?_
 refine A.block ?_
 obtain ⟨F1, n1, hF1, hm⟩ := fC hm
 refine A.lpW (F := F1) hm (fun sg => match sg with | (nh, n_1) => [(0, i6 nh), (3, i6 n_1)]) (fun sg => match sg with | (nh, n_1) => []) ?_ ?_
 ·exact qW
 rintro Z1 ⟨nh, n_1⟩ hm
 rw [hF1] at hm
 refine A.seq ?_
 refine qDs [] [] [(5, .bool (decide ((8:Int) < nh)))] ?_
 rcases ai hm with ⟨c1,hm⟩|⟨c1,hm⟩
 ·refine qT c1 ?_
  refine A.skip ?_
  show ah _ _ _ _ _
  refine A.block ?_
  refine qDs [(1, .qr (2:Int) (by decide))] [0, 5] [(0, i6 (w64 (Int.tdiv nh (2:Int))))] ?_
  refine qGs [] [3] [(3, i6 (w64 (n_1 + (1:Int))))] ?_
  exact qX (w64 (Int.tdiv nh (2:Int)), w64 (n_1 + (1:Int))) hm
 refine qF c1 ?_
 refine A.exit ?_
 show ah _ _ _ _ _
 refine qS [] [(2, i6 n_1)] [] ?_
 cases hm
 exact A.ret qE
end Go.Proofs.YtpmifmdidfgpdaaGreat
