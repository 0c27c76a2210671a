/- The eC of cr of the program. No condition but bT bB stand in each. -/
import Derived.Test.YtpmifmdidfgpdaaGreatDA
namespace Go.Proofs.YtpmifmdidfgpdaaGreat
open Go
set_option maxRecDepth 100000
set_option linter.all false
theorem vT {xa0 : Int} {r : Int} (hm : oL xa0 = some r) : RO Tryz.prog 180 [] [.int .u64 xa0] (i6 r) := by
 refine aT Tryz.func180 rfl rfl ?_
 unfold oL at hm
 refine qS [] [(0, .int .u64 xa0), (2, i6 0)] [] ?_
 obtain ⟨J1, hJ1, hm⟩ := bJ hm
 refine A.J (J := J1) (r := r) (fun sg => match sg with | (af, n_1) => [(0, .int .u64 af), (2, i6 n_1)]) (fun sg => match sg with | (af, n_1) => []) ?_ ?_
 ·refine qDs [] [] [(4, .bool (decide ((4294967296:Int) ≤ xa0)))] ?_
  rcases ai hm with ⟨c1,hm⟩|⟨c1,hm⟩
  ·refine qT c1 ?_
   refine qS [(1, .sh (32:Int) (by decide))] [(0, .int .u64 (Int.fdiv xa0 (2 ^ min (32:Int).toNat 64)))] [] ?_
   refine qGs [] [] [(2, i6 32)] ?_
   exact qX (Int.fdiv xa0 (2 ^ min (32:Int).toNat 64), (32:Int)) hm
  refine qF c1 ?_
  refine A.skip ?_
  exact qX (xa0, (0:Int)) hm
 rintro ⟨af, n_1⟩ hm
 rw [hJ1] at hm
 obtain ⟨J2, hJ2, hm⟩ := bJ hm
 refine A.J (J := J2) (r := r) (fun sg => match sg with | (ay, n_2) => [(0, .int .u64 ay), (2, i6 n_2)]) (fun sg => match sg with | (ay, n_2) => []) ?_ ?_
 ·refine qDs [] [] [(8, .bool (decide ((65536:Int) ≤ af)))] ?_
  rcases ai hm with ⟨c2,hm⟩|⟨c2,hm⟩
  ·refine qT c2 ?_
   refine qDs [(1, .sh (16:Int) (by decide))] [0, 8] [(0, .int .u64 (Int.fdiv af (2 ^ min (16:Int).toNat 64)))] ?_
   refine qGs [] [2] [(2, i6 (w64 (n_1 + (16:Int))))] ?_
   exact qX (Int.fdiv af (2 ^ min (16:Int).toNat 64), w64 (n_1 + (16:Int))) hm
  refine qF c2 ?_
  refine A.skip ?_
  exact qX (af, n_1) hm
 rintro ⟨ay, n_2⟩ hm
 rw [hJ2] at hm
 obtain ⟨J3, hJ3, hm⟩ := bJ hm
 refine A.J (J := J3) (r := r) (fun sg => match sg with | (aK, n_3) => [(0, .int .u64 aK), (2, i6 n_3)]) (fun sg => match sg with | (aK, n_3) => []) ?_ ?_
 ·refine qDs [] [] [(14, .bool (decide ((256:Int) ≤ ay)))] ?_
  rcases ai hm with ⟨c3,hm⟩|⟨c3,hm⟩
  ·refine qT c3 ?_
   refine qDs [(1, .sh (8:Int) (by decide))] [0, 14] [(0, .int .u64 (Int.fdiv ay (2 ^ min (8:Int).toNat 64)))] ?_
   refine qGs [] [2] [(2, i6 (w64 (n_2 + (8:Int))))] ?_
   exact qX (Int.fdiv ay (2 ^ min (8:Int).toNat 64), w64 (n_2 + (8:Int))) hm
  refine qF c3 ?_
  refine A.skip ?_
  exact qX (ay, n_2) hm
 rintro ⟨aK, n_3⟩ hm
 rw [hJ3] at hm
 obtain ⟨b_1, h1, hm⟩ := aa hm
 refine qS [(3, .is (⟨#[0, 1, 2, 2, 3, 3, 3, 3, 4, 4, 4, 4, 4, 4, 4, 4, 5, 5, 5, 5, 5, 5, 5, 5, 5, 5, 5, 5, 5, 5, 5, 5, 6, 6, 6, 6, 6, 6, 6, 6, 6, 6, 6, 6, 6, 6, 6, 6, 6, 6, 6, 6, 6, 6, 6, 6, 6, 6, 6, 6, 6, 6, 6, 6, 7, 7, 7, 7, 7, 7, 7, 7, 7, 7, 7, 7, 7, 7, 7, 7, 7, 7, 7, 7, 7, 7, 7, 7, 7, 7, 7, 7, 7, 7, 7, 7, 7, 7, 7, 7, 7, 7, 7, 7, 7, 7, 7, 7, 7, 7, 7, 7, 7, 7, 7, 7, 7, 7, 7, 7, 7, 7, 7, 7, 7, 7, 7, 7, 8, 8, 8, 8, 8, 8, 8, 8, 8, 8, 8, 8, 8, 8, 8, 8, 8, 8, 8, 8, 8, 8, 8, 8, 8, 8, 8, 8, 8, 8, 8, 8, 8, 8, 8, 8, 8, 8, 8, 8, 8, 8, 8, 8, 8, 8, 8, 8, 8, 8, 8, 8, 8, 8, 8, 8, 8, 8, 8, 8, 8, 8, 8, 8, 8, 8, 8, 8, 8, 8, 8, 8, 8, 8, 8, 8, 8, 8, 8, 8, 8, 8, 8, 8, 8, 8, 8, 8, 8, 8, 8, 8, 8, 8, 8, 8, 8, 8, 8, 8, 8, 8, 8, 8, 8, 8, 8, 8, 8, 8, 8, 8, 8, 8, 8, 8, 8, 8, 8, 8, 8, 8, 8, 8, 8, 8, 8, 8]⟩ : ByteArray) (IntKind.wrap .u8 aK) b_1 (ahn h1))] [(2, i6 (w64 (n_3 + (w64 (b_1.toNat : Int)))))] [] ?_
 cases hm
 exact A.ret qE
theorem xb {xa0 : Int} {r : Int} (hm : qA xa0 = some r) : RO Tryz.prog 164 [] [.int .u64 xa0] (i6 r) := by
 refine aT Tryz.func164 rfl rfl ?_
 unfold qA at hm
 refine qS [] [(0, .int .u64 xa0)] [] ?_
 refine A.seq ?_
 refine A.cF rfl rfl ?_
 refine A.skip ?_
 show ah _ _ _ _ _
 obtain ⟨af, h1, hm⟩ := aa hm
 refine qS [(1, hro (vT h1) atZ)] [(2, i6 af)] [] ?_
 cases hm
 exact A.ret qE
theorem mU  {r : Unit} (hm : fJ = some r) : RO Tryz.prog 170 [] [.aG, i6 0, i6 0] (.tup []) := by
 refine aT Tryz.func170 rfl rfl ?_
 unfold fJ at hm
 refine qS [] [(0, .aG), (1, i6 0), (2, i6 0), (6, i6 1)] [] ?_
 refine A.block ?_
 obtain ⟨F1, n1, hF1, hm⟩ := fC hm
 refine A.lpW (F := F1) hm (fun sg => match sg with | () => [(0, .aG), (1, i6 0), (2, i6 0), (6, i6 1)]) (fun sg => match sg with | () => []) ?_ ?_
 ·exact qW
 rintro Z1 ⟨⟩ hm
 rw [hF1] at hm
 refine A.seq ?_
 refine qDs [] [] [(12, .bool false)] ?_
 refine A.cF rfl rfl ?_
 refine A.exit ?_
 obtain rfl := some_inj hm
 exact A.fin W0 [] rfl (by kernel_rfl)
theorem oM {limit : Int} {r : Unit} (hm : gX limit = some r) : RO Tryz.prog 163 [] [.aG, i6 0, i6 0, i6 limit] (.tup []) := by
 refine aT Tryz.func163 rfl rfl ?_
 unfold gX at hm
 refine qS [] [(0, .aG), (1, i6 0), (2, i6 0), (3, i6 limit), (8, .bool true)] [] ?_
 refine qDs [] [] [(9, .bool true)] ?_
 refine A.block ?_
 obtain ⟨F1, n1, hF1, hm⟩ := fC hm
 refine A.lpW (F := F1) hm (fun sg => match sg with | () => [(0, .aG), (1, i6 0), (2, i6 0), (3, i6 limit), (8, .bool true), (9, .bool true)]) (fun sg => match sg with | () => []) ?_ ?_
 ·exact qW
 rintro Z1 ⟨⟩ hm
 rw [hF1] at hm
 refine A.block ?_
 refine qDs [] [] [(10, i6 0)] ?_
 refine A.seq ?_
 refine qDs [] [] [(23, .bool true)] ?_
 refine A.cT rfl rfl ?_
 obtain ⟨af, h1, hm⟩ := aa hm
 refine qS [(3, aoc 1 (mU h1) atY)] [] [] ?_
 cases hm
 exact A.ret qE
theorem qV  {r : Unit} (hm : nu = some r) : RO Tryz.prog 154 [] [.aG] (.tup []) := by
 refine aT Tryz.func154 rfl rfl ?_
 unfold nu at hm
 refine qS [] [(0, .aG), (2, i6 0)] [] ?_
 obtain ⟨af, h1, hm⟩ := aa hm
 obtain ⟨ay, h2, hm⟩ := aa hm
 refine qR [(4, hro (xb h1) atT), (5, aoc 1 (oM h2) atS)] [] [] ?_
 obtain rfl := some_inj hm
 exact A.fin W0 [] rfl (by kernel_rfl)
end Go.Proofs.YtpmifmdidfgpdaaGreat
