/- The jt of dK of the program. No condition but bR bw stand in each. -/
import Derived.Test.YtmfehenfoepkfaaDL2
import Derived.Test.YtmfehenfoepkfaaVN
import Derived.Test.YtmfehenfoepkfaaVX
import Derived.Test.YtmfehenfoepkfaaVL
namespace Go.Proofs.Ytmfehenfoepkfaa
open Go
set_option maxRecDepth 100000
set_option linter.all false
theorem rS {t : List Int} {r : Bool} (hm : iG t = some r) : RO Try.prog 5 [] [lf aA t] (.bool r) := by
 refine aZ Try.func5 rfl rfl ?_
 unfold iG at hm
 refine qS [] [(0, lf aA t)] [] ?_
 obtain ⟨ak, h1, hm⟩ := aa hm
 refine qS [(1, hdc [900000081] (iV h1) ck8)] [(3, .ptr 900000081 0)] [(900000081, .cells 81 (k4 ak))] ?_
 obtain ⟨aF, h2, hm⟩ := aa hm
 refine qD [(1, hdc [] (iQ h2) ck9), (2, .al 5004)] [] [(4, .ptr 5004 0)] [900000081] [(900000081, .cells 81 (k4 aF.2)), (5004, .cells 32 (k2 aF.1))] ?_
 obtain ⟨aI, h3, hm⟩ := aa hm
 refine qD [(2, hdc [] (pe h3) aeQ), (3, .al 5005)] [3] [(5, .ptr 5005 0)] [900000081] [(5005, .cells 36 (k5 aI.1))] ?_
 refine qDs [] [] [(6, .int .u64 (0:Int)), (7, .int .u64 (0:Int))] ?_
 refine A.seq ?_
 refine qDs [] [] [(8, i6 1)] ?_
 refine A.block ?_
 obtain ⟨B1, K1, hB1, hK1, hm⟩ := mH hm
 refine A.lpN (hi := (100:Int)) (B := B1) (K := K1) hm rfl (fun j1 => fun mz => [(4, .ptr 5004 0), (5, .ptr 5005 0), (6, .int .u64 mz), (7, .int .u64 (0:Int)), (8, i6 (j1 : Int))]) (fun j1 => fun mz => [(5004, .cells 32 (k2 aF.1)), (5005, .cells 36 (k5 aI.1))]) ?_ ?_ ?_
 ·exact qW
 ·rintro j1 Z1 mz hj1 hx1 hm
  rw [hB1] at hm
  refine A.seq ?_
  refine qDs [] [] [(22, .bool (decide ((j1 : Int) ≤ (99:Int))))] ?_
  refine A.cT rfl (leT hx1) ?_
  refine A.skip ?_
  show ah _ _ _ _ _
  refine A.seq ?_
  refine A.block ?_
  obtain ⟨aU, h4, hm⟩ := aa hm
  refine qDs [(2, hro (iC h4) aak)] [22] [(9, .int .u64 aU)] ?_
  refine A.seq ?_
  refine qDs [] [] [(31, .bool (!decide (cg .and .u64 mz aU = (0:Int))))] ?_
  rcases aq hm with ⟨c1,hm⟩|⟨c1,hm⟩
  ·refine qT c1 ?_
   refine qS [] [(2, .bool false)] [] ?_
   cases hm
   exact A.ret qE
  refine qF c1 ?_
  refine A.skip ?_
  show ah _ _ _ _ _
  refine qGs [] [6, 9, 31] [(6, .int .u64 (cg .or .u64 mz aU))] ?_
  show ah _ _ _ _ _
  refine qGs [(1, hto (wV (by omega) hx1 (by decide)))] [8] [(8, i6 (j1 + 1 : Int))] ?_
  exact qX (cg .or .u64 mz aU) hm
 rintro j1 mz hj1 hl1 hm
 rw [hK1] at hm
 refine A.seq ?_
 refine qDs [] [] [(22, .bool (decide ((j1 : Int) ≤ (99:Int))))] ?_
 refine A.cF rfl (gtF hl1) ?_
 refine A.exit ?_
 show ah _ _ _ _ _
 refine A.seq ?_
 refine qDs [(2, hto (lnE af aI.1.List))] [8, 22] [(36, lf af aI.1.List), (37, i6 (aI.1.List.length:Int)), (38, i6 0)] ?_
 refine A.block ?_
 refine A.bS 36 rfl fun hb2 => ?_
 obtain ⟨B2, K2, hB2, hK2, hm⟩ := aP hm
 refine A.lpI (l := aI.1.List) (j0 := 0) (B := B2) (K := K2) hm (fun j2 => fun mS => [(4, .ptr 5004 0), (5, .ptr 5005 0), (6, .int .u64 mz), (7, .int .u64 mS), (36, lf af aI.1.List), (37, i6 (aI.1.List.length:Int)), (38, i6 (j2 : Int))]) (fun j2 => fun mS => [(5004, .cells 32 (k2 aF.1)), (5005, .cells 36 (k5 aI.1))]) ?_ ?_ ?_
 ·exact qW
 ·rintro j2 e2 Z2 mS hj2 hx2 hm
  rw [hB2] at hm
  refine qDs [] [] [(39, .bool (decide ((j2 : Int) < (aI.1.List.length:Int))))] ?_
  refine A.seq ?_
  refine qT (ltT hx2) ?_
  refine A.skip ?_
  show ah _ _ _ _ _
  refine A.seq ?_
  refine A.block ?_
  refine qD [(0, hix (ix af (aY hx2))), (2, .al 5011)] [39] [(11, .ptr 5011 0)] [] [(5011, .cells 64 (k3 e2))] ?_
  obtain ⟨h5, hm⟩ := eP hm
  refine qDs [(4, .sh (IntKind.wrap .u64 e2.Bit) (of_decide_eq_true h5))] [7] [(7, .int .u64 (cg .or .u64 mS (IntKind.wrap .u64 ((1:Int) * 2 ^ min (IntKind.wrap .u64 e2.Bit).toNat 64))))] ?_
  obtain ⟨aX, h6, hm⟩ := aa hm
  refine qDs [(7, hro (me h6) aeW)] [] [(12, i6 aX.1), (13, .bool aX.2)] ?_
  obtain ⟨J1, hJ1, hm⟩ := bN hm
  refine A.J (J := J1) (r := r) (fun v_1 => [(4, .ptr 5004 0), (5, .ptr 5005 0), (6, .int .u64 mz), (7, .int .u64 (cg .or .u64 mS (IntKind.wrap .u64 ((1:Int) * 2 ^ min (IntKind.wrap .u64 e2.Bit).toNat 64)))), (36, lf af aI.1.List), (37, i6 (aI.1.List.length:Int)), (38, i6 (j2 : Int)), (77, .bool v_1)]) (fun v_1 => [(5004, .cells 32 (k2 aF.1)), (5005, .cells 36 (k5 aI.1))]) ?_ ?_
  ·rcases aq hm with ⟨c2,hm⟩|⟨c2,hm⟩
   ·refine qG [(2, hto (bE c2))] [11, 12, 13] [(77, .bool true)] [5011] [] ?_
    exact qX true hm
   rcases aq hm with ⟨c3,hm⟩|⟨c3,hm⟩
   ·refine qG [(2, hto (bE c2)), (8, hto (bE c3))] [11, 12, 13] [(77, .bool true)] [5011] [] ?_
    exact qX true hm
   obtain ⟨aS, h7, hm⟩ := aa hm
   obtain ⟨h8, hm⟩ := eP hm
   refine qG [(2, hto (bE c2)), (8, hto (bE c3)), (12, hro (iC h7) aak), (15, .sh (IntKind.wrap .u64 aX.1) (of_decide_eq_true h8))] [11, 12, 13] [(77, .bool (decide (cg .and .u64 aS (IntKind.wrap .u64 ((1:Int) * 2 ^ min (IntKind.wrap .u64 aX.1).toNat 64)) = (0:Int))))] [5011] [] ?_
   exact qX (decide (cg .and .u64 aS (IntKind.wrap .u64 ((1:Int) * 2 ^ min (IntKind.wrap .u64 aX.1).toNat 64)) = (0:Int))) hm
  rintro v_1 hm
  rw [hJ1] at hm
  rcases aq hm with ⟨c4,hm⟩|⟨c4,hm⟩
  ·refine qT c4 ?_
   refine qS [] [(2, .bool false)] [] ?_
   cases hm
   exact A.ret qE
  refine qF c4 ?_
  refine A.skip ?_
  show ah _ _ _ _ _
  refine qGs [(0, hto (inc hx2 hb2))] [38, 77] [(38, i6 ((j2 + 1 : Nat) : Int))] ?_
  exact qX (cg .or .u64 mS (IntKind.wrap .u64 ((1:Int) * 2 ^ min (IntKind.wrap .u64 e2.Bit).toNat 64))) hm
 rintro j2 mS hj2 hl2 hm
 rw [hK2] at hm
 refine qDs [] [] [(39, .bool (decide ((j2 : Int) < (aI.1.List.length:Int))))] ?_
 refine A.seq ?_
 refine qF (ltF hl2) ?_
 refine A.exit ?_
 show ah _ _ _ _ _
 rcases aq hm with ⟨c5,hm⟩|⟨c5,hm⟩
 ·obtain ⟨bh, h9, hm⟩ := aa hm
  rcases aq hm with ⟨c6,hm⟩|⟨c6,hm⟩
  ·obtain ⟨cC, h10, hm⟩ := aa hm
   refine qS [(3, hto (bE c5)), (6, hro (mc h9) aeX), (9, hto (bE c6)), (10, hro (eF h10) ck7)] [(2, .bool cC)] [] ?_
   cases hm
   exact A.ret qE
  refine qS [(3, hto (bE c5)), (6, hro (mc h9) aeX), (9, hto (bE c6))] [(2, .bool false)] [] ?_
  cases hm
  exact A.ret qE
 refine qS [(3, hto (bE c5))] [(2, .bool false)] [] ?_
 cases hm
 exact A.ret qE
end Go.Proofs.Ytmfehenfoepkfaa
