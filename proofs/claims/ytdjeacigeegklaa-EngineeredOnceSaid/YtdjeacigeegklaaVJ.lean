/- The iY of ee of the program. No condition but bL aY stand in each. -/
import Derived.Test.YtdjeacigeegklaaDA
import Derived.Test.YtdjeacigeegklaaV5
namespace Go.Proofs.Ytdjeacigeegklaa
open Go
set_option maxRecDepth 100000
set_option linter.all false
theorem gW {n : Int} {r : Bool} (hm : fR n = some r) : RO Try.prog 35 [] [i6 n] (.bool r) := by
 refine bO Try.func35 rfl rfl ?_
 unfold fR at hm
 refine qS [] [(0, i6 n)] [] ?_
 refine A.mid [(2, .bool ((decide (n = (8:Int))) || ((decide (n = (16:Int))) || ((decide (n = (32:Int))) || (decide (n = (64:Int)))))))] [] (fun hk => ?_) ?_
 ·rcases tf (decide (n = (8:Int))) with c1 | c1
  ·exact qS [(2, hto (bE c1)), (14, hto (orT (q := ((decide (n = (16:Int))) || ((decide (n = (32:Int))) || (decide (n = (64:Int)))))) c1))] _ _ hk
  rcases tf (decide (n = (16:Int))) with c2 | c2
  ·exact qS [(2, hto (bE c1)), (6, hto (bE c2)), (14, hto ((orT (q := ((decide (n = (32:Int))) || (decide (n = (64:Int))))) c2).trans (orF (q := ((decide (n = (16:Int))) || ((decide (n = (32:Int))) || (decide (n = (64:Int)))))) c1)))] _ _ hk
  rcases tf (decide (n = (32:Int))) with c3 | c3
  ·exact qS [(2, hto (bE c1)), (6, hto (bE c2)), (10, hto (bE c3)), (14, hto (((orT (q := decide (n = (64:Int))) c3).trans (orF (q := ((decide (n = (32:Int))) || (decide (n = (64:Int))))) c2)).trans (orF (q := ((decide (n = (16:Int))) || ((decide (n = (32:Int))) || (decide (n = (64:Int)))))) c1)))] _ _ hk
  exact qS [(2, hto (bE c1)), (6, hto (bE c2)), (10, hto (bE c3)), (14, hto (((orF (q := decide (n = (64:Int))) c3).trans (orF (q := ((decide (n = (32:Int))) || (decide (n = (64:Int))))) c2)).trans (orF (q := ((decide (n = (16:Int))) || ((decide (n = (32:Int))) || (decide (n = (64:Int)))))) c1)))] _ _ hk
 cases hm
 exact A.ret qE
theorem xe {length : Int} {r : Int} (hm : nx length = some r) : RO Try.prog 64 [] [i6 length] (.int .u64 r) := by
 refine bO Try.func64 rfl rfl ?_
 unfold nx at hm
 refine qS [] [(0, i6 length)] [] ?_
 refine A.seq ?_
 obtain ⟨ay, h1, hm⟩ := af hm
 refine qDs [(1, hro (gW h1) ab5)] [] [(5, .bool (!ay))] ?_
 rcases aA hm with ⟨c1,hm⟩|⟨c1,hm⟩
 ·refine qT c1 ?_
  refine qS [] [(2, .int .u64 (0:Int))] [] ?_
  cases hm
  exact A.ret qE
 refine qF c1 ?_
 refine A.skip ?_
 show aj _ _ _ _ _
 obtain ⟨h2, hm⟩ := eB hm
 refine qS [(2, .sh (w64 ((64:Int) - length)) (of_decide_eq_true h2))] [(2, .int .u64 (Int.fdiv (18446744073709551615:Int) (2 ^ min (w64 ((64:Int) - length)).toNat 64)))] [] ?_
 cases hm
 exact A.ret qE
theorem gO {b : Int} {length : Int} {r : Bool} (hm : kT b length = some r) : RO Try.prog 50 [] [.int .u64 b, i6 length] (.bool r) := by
 refine bO Try.func50 rfl rfl ?_
 unfold kT at hm
 refine qS [] [(0, .int .u64 b), (1, i6 length)] [] ?_
 obtain ⟨ay, h1, hm⟩ := af hm
 rcases aA hm with ⟨c1,hm⟩|⟨c1,hm⟩
 ·obtain ⟨aV, h2, hm⟩ := af hm
  refine qS [(1, hro (gW h1) ab5), (2, hto (bE c1)), (5, hro (xe h2) ck64)] [(4, .bool (decide (bH .andNot .u64 b aV = (0:Int))))] [] ?_
  cases hm
  exact A.ret qE
 refine qS [(1, hro (gW h1) ab5), (2, hto (bE c1))] [(4, .bool false)] [] ?_
 cases hm
 exact A.ret qE
theorem kV {n : Int} {r : Bool} (hm : iH n = some r) : RO Try.prog 36 [] [i6 n] (.bool r) := by
 refine bO Try.func36 rfl rfl ?_
 unfold iH at hm
 refine qS [] [(0, i6 n)] [] ?_
 refine A.mid [(2, .bool ((decide ((1:Int) ≤ n)) && (decide (n ≤ (99:Int)))))] [] (fun hk => ?_) ?_
 ·rcases tf (decide ((1:Int) ≤ n)) with c1 | c1
  ·exact qS [(2, hto (bE c1)), (6, hto (mM (q := decide (n ≤ (99:Int))) c1))] _ _ hk
  exact qS [(2, hto (bE c1)), (6, hto (oD (q := decide (n ≤ (99:Int))) c1))] _ _ hk
 cases hm
 exact A.ret qE
theorem qc {a : ah} {r : bZ} (hm : kU a = some r) : RO Try.prog 37 [] [.agg (k4 a)] (.agg [i6 r.bq, i6 r.vJ, i6 r.to_]) := by
 refine bO Try.func37 rfl rfl ?_
 unfold kU at hm
 refine qS [(0, .al 37001), (1, .al 37002)] [(1, .ptr 37001 0), (2, .ptr 37002 0)] [(37001, .cells 39 (k4 a)), (37002, .cells 105 [i6 0, i6 0, i6 0])] ?_
 refine qS [] [(2, .ptr 37002 0)] [(37002, .cells 105 [i6 a.aR, i6 a.Kind, i6 a.To])] ?_
 cases hm
 exact A.ret qE
theorem x5 : uS Try.prog 103 105 4 (kv iC) cZ := ⟨Try.underlying103, fun _ => rfl, fun _ => rfl, ⟨_, Try.underlying105, fun _ _ => rfl⟩, fun a b w => eqK (by kernel_rfl) (by kernel_rfl) (alL a.bq b.bq a.vJ b.vJ a.to_ b.to_ w), fun e a w => by kernel_rfl, fun a b h => by cases a; cases b; simpa [cZ] using h, fun a => by simp [kv, iC, valOf, uB, Instr.sameBits]⟩
theorem fk {e : aM} {r : Int} (hm : fE e = some r) : RO Try.prog 20 [] [.agg (k5 e)] (i6 r) := by
 refine bO Try.func20 rfl rfl ?_
 unfold fE at hm
 refine qS [(0, .al 20001)] [(1, .ptr 20001 0)] [(20001, .cells 32 (k5 e))] ?_
 refine A.seq ?_
 obtain ⟨ay, h1, hm⟩ := af hm
 refine qDs [(2, hro (gW h1) ab5)] [] [(16, .bool (!ay))] ?_
 rcases aA hm with ⟨c1,hm⟩|⟨c1,hm⟩
 ·refine qT c1 ?_
  refine qS [] [(2, i6 2)] [] ?_
  cases hm
  exact A.ret qE
 refine qF c1 ?_
 refine A.skip ?_
 show aj _ _ _ _ _
 refine A.seq ?_
 refine qDs [(2, hto (lnE ak e.List))] [16] [(18, lf ak e.List), (19, i6 (e.List.length:Int)), (20, i6 0)] ?_
 refine A.block ?_
 refine A.bS 18 rfl fun hb1 => ?_
 obtain ⟨B1, K1, hB1, hK1, hm⟩ := bN hm
 refine A.lpI (l := e.List) (j0 := 0) (B := B1) (K := K1) hm (fun j1 => fun sg => match sg with | () => [(1, .ptr 20001 0), (18, lf ak e.List), (19, i6 (e.List.length:Int)), (20, i6 (j1 : Int))]) (fun j1 => fun sg => match sg with | () => [(20001, .cells 32 (k5 e))]) ?_ ?_ ?_
 ·exact qW
 ·rintro j1 e1 Z1 ⟨⟩ hj1 hx1 hm
  rw [hB1] at hm
  refine qDs [] [] [(21, .bool (decide ((j1 : Int) < (e.List.length:Int))))] ?_
  refine A.seq ?_
  refine qT (ltT hx1) ?_
  refine A.skip ?_
  show aj _ _ _ _ _
  refine A.seq ?_
  refine A.block ?_
  refine qD [(0, hix (ix ak (b8 hx1))), (2, .al 20004)] [21] [(4, .ptr 20004 0)] [] [(20004, .cells 39 (k4 e1))] ?_
  obtain ⟨J1, hJ1, hm⟩ := cD hm
  refine A.J (J := J1) (r := r) (fun v_1 => [(1, .ptr 20001 0), (18, lf ak e.List), (19, i6 (e.List.length:Int)), (20, i6 (j1 : Int)), (45, .bool v_1)]) (fun v_1 => [(20001, .cells 32 (k5 e))]) ?_ ?_
  ·rcases aA hm with ⟨c2,hm⟩|⟨c2,hm⟩
   ·refine qG [(3, hto (bE c2))] [4] [(45, .bool true)] [20004] [] ?_
    exact qX true hm
   rcases aA hm with ⟨c3,hm⟩|⟨c3,hm⟩
   ·refine qG [(3, hto (bE c2)), (10, hto (bE c3))] [4] [(45, .bool true)] [20004] [] ?_
    exact qX true hm
   obtain ⟨aV, h2, hm⟩ := af hm
   rcases aA hm with ⟨c4,hm⟩|⟨c4,hm⟩
   ·refine qG [(3, hto (bE c2)), (10, hto (bE c3)), (13, hro (kV h2) afq), (16, hto (bE c4))] [4] [(45, .bool true)] [20004] [] ?_
    exact qX true hm
   obtain ⟨bu, h3, hm⟩ := af hm
   refine qG [(3, hto (bE c2)), (10, hto (bE c3)), (13, hro (kV h2) afq), (16, hto (bE c4)), (19, hro (kV h3) afq)] [4] [(45, .bool (!bu))] [20004] [] ?_
   exact qX (!bu) hm
  rintro v_1 hm
  rw [hJ1] at hm
  rcases aA hm with ⟨c5,hm⟩|⟨c5,hm⟩
  ·refine qT c5 ?_
   refine qS [] [(2, i6 2)] [] ?_
   cases hm
   exact A.ret qE
  refine qF c5 ?_
  refine A.skip ?_
  show aj _ _ _ _ _
  refine qGs [(0, hto (inc hx1 hb1))] [20, 45] [(20, i6 ((j1 + 1 : Nat) : Int))] ?_
  exact qX () hm
 rintro j1 ⟨⟩ hj1 hl1 hm
 rw [hK1] at hm
 refine qDs [] [] [(21, .bool (decide ((j1 : Int) < (e.List.length:Int))))] ?_
 refine A.seq ?_
 refine qF (ltF hl1) ?_
 refine A.exit ?_
 show aj _ _ _ _ _
 refine A.seq ?_
 refine qDs [(2, hto (lnE ak e.List))] [18, 19, 20, 21] [(48, lf ak e.List), (49, i6 (e.List.length:Int)), (50, i6 0)] ?_
 refine A.block ?_
 refine A.bS 48 rfl fun hb2 => ?_
 obtain ⟨B2, K2, hB2, hK2, hm⟩ := bN hm
 refine A.lpI (l := e.List) (j0 := 0) (B := B2) (K := K2) hm (fun j2 => fun sg => match sg with | () => [(1, .ptr 20001 0), (48, lf ak e.List), (49, i6 (e.List.length:Int)), (50, i6 (j2 : Int))]) (fun j2 => fun sg => match sg with | () => [(20001, .cells 32 (k5 e))]) ?_ ?_ ?_
 ·exact qW
 ·rintro j2 e2 Z2 ⟨⟩ hj2 hx2 hm
  rw [hB2] at hm
  refine qDs [] [] [(51, .bool (decide ((j2 : Int) < (e.List.length:Int))))] ?_
  refine A.seq ?_
  refine qT (ltT hx2) ?_
  refine A.skip ?_
  show aj _ _ _ _ _
  refine A.seq ?_
  refine A.block ?_
  refine qD [(0, hix (ix ak (b8 hx2))), (2, .al 20006)] [51] [(6, .ptr 20006 0)] [] [(20006, .cells 39 (k4 e2))] ?_
  refine A.mid [(1, .ptr 20001 0), (48, lf ak e.List), (49, i6 (e.List.length:Int)), (50, i6 (j2 : Int)), (61, .bool ((decide (e2.Kind < (1:Int))) || (decide ((3:Int) < e2.Kind))))] [(20001, .cells 32 (k5 e))] (fun hk => ?_) ?_
  ·rcases tf (decide (e2.Kind < (1:Int))) with c6 | c6
   ·exact qS [(3, hto (bE c6)), (7, hto (orT (q := decide ((3:Int) < e2.Kind)) c6))] _ _ hk
   exact qS [(3, hto (bE c6)), (7, hto (orF (q := decide ((3:Int) < e2.Kind)) c6))] _ _ hk
  rcases aA hm with ⟨c7,hm⟩|⟨c7,hm⟩
  ·refine qT c7 ?_
   refine qS [] [(2, i6 1)] [] ?_
   cases hm
   exact A.ret qE
  refine qF c7 ?_
  refine A.skip ?_
  show aj _ _ _ _ _
  refine qGs [(0, hto (inc hx2 hb2))] [50, 61] [(50, i6 ((j2 + 1 : Nat) : Int))] ?_
  exact qX () hm
 rintro j2 ⟨⟩ hj2 hl2 hm
 rw [hK2] at hm
 refine qDs [] [] [(51, .bool (decide ((j2 : Int) < (e.List.length:Int))))] ?_
 refine A.seq ?_
 refine qF (ltF hl2) ?_
 refine A.exit ?_
 show aj _ _ _ _ _
 refine A.seq ?_
 refine qDs [(2, hto (lnE ak e.List))] [48, 49, 50, 51] [(64, lf ak e.List), (65, i6 (e.List.length:Int)), (66, i6 0)] ?_
 refine A.block ?_
 refine A.bS 64 rfl fun hb3 => ?_
 obtain ⟨B3, K3, hB3, hK3, hm⟩ := bN hm
 refine A.lpI (l := e.List) (j0 := 0) (B := B3) (K := K3) hm (fun j3 => fun sg => match sg with | () => [(1, .ptr 20001 0), (64, lf ak e.List), (65, i6 (e.List.length:Int)), (66, i6 (j3 : Int))]) (fun j3 => fun sg => match sg with | () => [(20001, .cells 32 (k5 e))]) ?_ ?_ ?_
 ·exact qW
 ·rintro j3 e3 Z3 ⟨⟩ hj3 hx3 hm
  rw [hB3] at hm
  refine qDs [] [] [(67, .bool (decide ((j3 : Int) < (e.List.length:Int))))] ?_
  refine A.seq ?_
  refine qT (ltT hx3) ?_
  refine A.skip ?_
  show aj _ _ _ _ _
  refine A.seq ?_
  refine A.block ?_
  refine qD [(0, hix (ix ak (b8 hx3))), (2, .al 20008)] [67] [(8, .ptr 20008 0)] [] [(20008, .cells 39 (k4 e3))] ?_
  refine qD [] [8] [(78, .bool (!((decide (e3.To = e3.aR)) == (decide (e3.Kind = (3:Int))))))] [20008] [] ?_
  rcases aA hm with ⟨c8,hm⟩|⟨c8,hm⟩
  ·refine qT c8 ?_
   refine qS [] [(2, i6 8)] [] ?_
   cases hm
   exact A.ret qE
  refine qF c8 ?_
  refine A.skip ?_
  show aj _ _ _ _ _
  refine qGs [(0, hto (inc hx3 hb3))] [66, 78] [(66, i6 ((j3 + 1 : Nat) : Int))] ?_
  exact qX () hm
 rintro j3 ⟨⟩ hj3 hl3 hm
 rw [hK3] at hm
 refine qDs [] [] [(67, .bool (decide ((j3 : Int) < (e.List.length:Int))))] ?_
 refine A.seq ?_
 refine qF (ltF hl3) ?_
 refine A.exit ?_
 show aj _ _ _ _ _
 refine A.seq ?_
 refine qDs [] [64, 65, 66, 67] [(9, i6 1)] ?_
 refine A.block ?_
 refine A.bC 1 1 rfl rfl rfl fun hb4 => ?_
 obtain ⟨B4, K4, hB4, hK4, hm⟩ := bN hm
 refine A.lpI (l := e.List) (j0 := 1) (B := B4) (K := K4) hm (fun j4 => fun sg => match sg with | () => [(1, .ptr 20001 0), (9, i6 (j4 : Int))]) (fun j4 => fun sg => match sg with | () => [(20001, .cells 32 (k5 e))]) ?_ ?_ ?_
 ·exact qW
 ·rintro j4 e4 Z4 ⟨⟩ hj4 hx4 hm
  rw [hB4] at hm
  refine A.seq ?_
  refine qDs [(3, hto (lnE ak e.List))] [] [(84, .bool (decide ((j4 : Int) < (e.List.length:Int))))] ?_
  refine qT (ltT hx4) ?_
  refine A.skip ?_
  show aj _ _ _ _ _
  refine A.seq ?_
  refine A.block ?_
  obtain ⟨e_1, h4, hm⟩ := af hm
  refine qDs [(4, hix (ix ak h4)), (10, hix (ix ak (b8 hx4)))] [84] [(100, .bool (decide (e4.Bit ≤ e_1.Bit)))] ?_
  rcases aA hm with ⟨c9,hm⟩|⟨c9,hm⟩
  ·refine qT c9 ?_
   refine qS [] [(2, i6 25)] [] ?_
   cases hm
   exact A.ret qE
  refine qF c9 ?_
  refine A.skip ?_
  show aj _ _ _ _ _
  refine qGs [(1, hto (inc hx4 hb4))] [9, 100] [(9, i6 ((j4 + 1 : Nat) : Int))] ?_
  exact qX () hm
 rintro j4 ⟨⟩ hj4 hl4 hm
 rw [hK4] at hm
 refine A.seq ?_
 refine qDs [(3, hto (lnE ak e.List))] [] [(84, .bool (decide ((j4 : Int) < (e.List.length:Int))))] ?_
 refine qF (ltF hl4) ?_
 refine A.exit ?_
 show aj _ _ _ _ _
 refine qD [(0, hmm 20101 105 4)] [9, 84] [(10, .bT 20101)] [] [(20101, .map 105 4 (gA (kv iC) vB []))] ?_
 refine A.seq ?_
 refine qD [(2, hto (lnE ak e.List))] [1] [(103, lf ak e.List), (104, i6 (e.List.length:Int)), (105, i6 0)] [20001] [] ?_
 refine A.block ?_
 refine A.bS 103 rfl fun hb5 => ?_
 obtain ⟨B5, K5, hB5, hK5, hm⟩ := bN hm
 refine A.lpI (l := e.List) (j0 := 0) (B := B5) (K := K5) hm (fun j5 => fun m_1 => [(10, .bT 20101), (103, lf ak e.List), (104, i6 (e.List.length:Int)), (105, i6 (j5 : Int))]) (fun j5 => fun m_1 => [(20101, .map 105 4 (gA (kv iC) vB m_1))]) ?_ ?_ ?_
 ·exact qW
 ·rintro j5 e5 Z5 m_1 hj5 hx5 hm
  rw [hB5] at hm
  refine qDs [] [] [(106, .bool (decide ((j5 : Int) < (e.List.length:Int))))] ?_
  refine A.seq ?_
  refine qT (ltT hx5) ?_
  refine A.skip ?_
  show aj _ _ _ _ _
  refine A.seq ?_
  refine A.block ?_
  refine qD [(0, hix (ix ak (b8 hx5))), (2, .al 20012)] [106] [(12, .ptr 20012 0)] [] [(20012, .cells 39 (k4 e5))] ?_
  refine A.seq ?_
  obtain ⟨aK, h5, hm⟩ := af hm
  refine qDs [(2, hro (qc h5) an9), (3, hlK m_1 aK vB false x5 (zB Try.zeroValue4))] [] [(112, .bool ((gX cZ m_1 aK).getD false))] ?_
  rcases aA hm with ⟨c10,hm⟩|⟨c10,hm⟩
  ·refine qT c10 ?_
   refine qS [] [(2, i6 5)] [] ?_
   cases hm
   exact A.ret qE
  refine qF c10 ?_
  refine A.skip ?_
  show aj _ _ _ _ _
  obtain ⟨cO, h6, hm⟩ := af hm
  refine qG [(2, hro (qc h6) an9), (3, hmK m_1 cO vB true x5 rfl)] [12, 112] [] [20101, 20012] [(20101, .map 105 4 (gA (kv iC) vB (mO cZ m_1 cO true)))] ?_
  show aj _ _ _ _ _
  refine qGs [(0, hto (inc hx5 hb5))] [105] [(105, i6 ((j5 + 1 : Nat) : Int))] ?_
  exact qX (mO cZ m_1 cO true) hm
 rintro j5 m_1 hj5 hl5 hm
 rw [hK5] at hm
 refine qDs [] [] [(106, .bool (decide ((j5 : Int) < (e.List.length:Int))))] ?_
 refine A.seq ?_
 refine qF (ltF hl5) ?_
 refine A.exit ?_
 show aj _ _ _ _ _
 refine qS [] [(2, i6 0)] [] ?_
 cases hm
 exact A.ret qE
theorem uY {e : aM} {bW : Int} {r : Int} (hm : jS e bW = some r) : RO Try.prog 53 [] [.agg (k5 e), i6 bW] (.int .u64 r) := by
 refine bO Try.func53 rfl rfl ?_
 unfold jS at hm
 refine qS [(0, .al 53002)] [(1, i6 bW), (2, .ptr 53002 0)] [(53002, .cells 32 (k5 e))] ?_
 refine qDs [] [] [(5, .int .u64 (0:Int))] ?_
 obtain ⟨J1, hJ1, hm⟩ := cD hm
 refine A.J (J := J1) (r := r) (fun b_1 => [(5, .int .u64 b_1)]) (fun b_1 => []) ?_ ?_
 ·obtain ⟨ay, h1, hm⟩ := af hm
  refine qDs [(1, hro (fk h1) yC)] [] [(10, .bool (decide (ay = (0:Int))))] ?_
  rcases aA hm with ⟨c1,hm⟩|⟨c1,hm⟩
  ·refine qT c1 ?_
   refine qD [(2, hto (lnE ak e.List))] [2, 10] [(12, lf ak e.List), (13, i6 (e.List.length:Int)), (14, i6 0)] [53002] [] ?_
   refine A.block ?_
   refine A.bS 12 rfl fun hb1 => ?_
   obtain ⟨B1, K1, hB1, hK1, hm⟩ := bN hm
   refine A.lpI (l := e.List) (j0 := 0) (B := B1) (K := K1) hm (fun j1 => fun b_2 => [(1, i6 bW), (5, .int .u64 b_2), (12, lf ak e.List), (13, i6 (e.List.length:Int)), (14, i6 (j1 : Int))]) (fun j1 => fun b_2 => []) ?_ ?_ ?_
   ·exact qW
   ·rintro j1 e1 Z1 b_2 hj1 hx1 hm
    rw [hB1] at hm
    refine qDs [] [] [(15, .bool (decide ((j1 : Int) < (e.List.length:Int))))] ?_
    refine A.seq ?_
    refine qT (ltT hx1) ?_
    refine A.skip ?_
    show aj _ _ _ _ _
    obtain ⟨J2, hJ2, hm⟩ := cD hm
    refine A.J (J := J2) (r := r) (fun b_3 => [(1, i6 bW), (5, .int .u64 b_3), (12, lf ak e.List), (13, i6 (e.List.length:Int)), (14, i6 (j1 : Int))]) (fun b_3 => []) ?_ ?_
    ·refine A.block ?_
     refine qD [(0, hix (ix ak (b8 hx1))), (2, .al 53007)] [15] [(7, .ptr 53007 0)] [] [(53007, .cells 39 (k4 e1))] ?_
     refine qDs [] [] [(21, .bool (decide (e1.aR = bW)))] ?_
     rcases aA hm with ⟨c2,hm⟩|⟨c2,hm⟩
     ·refine qT c2 ?_
      obtain ⟨h2, hm⟩ := eB hm
      refine qG [(3, .sh e1.Bit (of_decide_eq_true h2))] [5, 7, 21] [(5, .int .u64 (bH .or .u64 b_2 (IntKind.wrap .u64 ((1:Int) * 2 ^ min e1.Bit.toNat 64))))] [53007] [] ?_
      exact qX (bH .or .u64 b_2 (IntKind.wrap .u64 ((1:Int) * 2 ^ min e1.Bit.toNat 64))) hm
     refine qF c2 ?_
     refine A.skip ?_
     exact qX b_2 hm
    rintro b_3 hm
    rw [hJ2] at hm
    refine qGs [(0, hto (inc hx1 hb1))] [14] [(14, i6 ((j1 + 1 : Nat) : Int))] ?_
    exact qX b_3 hm
   rintro j1 b_2 hj1 hl1 hm
   rw [hK1] at hm
   refine qDs [] [] [(15, .bool (decide ((j1 : Int) < (e.List.length:Int))))] ?_
   refine A.seq ?_
   refine qF (ltF hl1) ?_
   refine A.exit ?_
   exact qX b_2 hm
  refine qF c1 ?_
  refine A.skip ?_
  exact qX (0:Int) hm
 rintro b_1 hm
 rw [hJ1] at hm
 refine qS [] [(4, .int .u64 b_1)] [] ?_
 cases hm
 exact A.ret qE
end Go.Proofs.Ytdjeacigeegklaa
