/- The jt of dK of the program. No condition but bR bw stand in each. -/
import Derived.Test.YtmfehenfoepkfaaDA
namespace Go.Proofs.Ytmfehenfoepkfaa
open Go
set_option maxRecDepth 100000
set_option linter.all false
theorem tX {xa0 : Int} {r : Int} (hm : nB xa0 = some r) : RO Try.prog 106 [] [.int .u64 xa0] (i6 r) := by
 refine aZ Try.func106 rfl rfl ?_
 unfold nB at hm
 refine qS [] [(0, .int .u64 xa0), (2, i6 0)] [] ?_
 obtain ⟨J1, hJ1, hm⟩ := bN hm
 refine A.J (J := J1) (r := r) (fun sg => match sg with | (ak, n_1) => [(0, .int .u64 ak), (2, i6 n_1)]) (fun sg => match sg with | (ak, n_1) => []) ?_ ?_
 ·refine qDs [] [] [(4, .bool (decide ((4294967296:Int) ≤ xa0)))] ?_
  rcases aq hm with ⟨c1,hm⟩|⟨c1,hm⟩
  ·refine qT c1 ?_
   refine qS [(1, .sh (32:Int) (by decide))] [(0, .int .u64 (Int.fdiv xa0 (2 ^ min (32:Int).toNat 64)))] [] ?_
   refine qGs [] [] [(2, i6 32)] ?_
   exact qX (Int.fdiv xa0 (2 ^ min (32:Int).toNat 64), (32:Int)) hm
  refine qF c1 ?_
  refine A.skip ?_
  exact qX (xa0, (0:Int)) hm
 rintro ⟨ak, n_1⟩ hm
 rw [hJ1] at hm
 obtain ⟨J2, hJ2, hm⟩ := bN hm
 refine A.J (J := J2) (r := r) (fun sg => match sg with | (aF, n_2) => [(0, .int .u64 aF), (2, i6 n_2)]) (fun sg => match sg with | (aF, n_2) => []) ?_ ?_
 ·refine qDs [] [] [(8, .bool (decide ((65536:Int) ≤ ak)))] ?_
  rcases aq hm with ⟨c2,hm⟩|⟨c2,hm⟩
  ·refine qT c2 ?_
   refine qDs [(1, .sh (16:Int) (by decide))] [0, 8] [(0, .int .u64 (Int.fdiv ak (2 ^ min (16:Int).toNat 64)))] ?_
   refine qGs [] [2] [(2, i6 (w64 (n_1 + (16:Int))))] ?_
   exact qX (Int.fdiv ak (2 ^ min (16:Int).toNat 64), w64 (n_1 + (16:Int))) hm
  refine qF c2 ?_
  refine A.skip ?_
  exact qX (ak, n_1) hm
 rintro ⟨aF, n_2⟩ hm
 rw [hJ2] at hm
 obtain ⟨J3, hJ3, hm⟩ := bN hm
 refine A.J (J := J3) (r := r) (fun sg => match sg with | (aI, n_3) => [(0, .int .u64 aI), (2, i6 n_3)]) (fun sg => match sg with | (aI, n_3) => []) ?_ ?_
 ·refine qDs [] [] [(14, .bool (decide ((256:Int) ≤ aF)))] ?_
  rcases aq hm with ⟨c3,hm⟩|⟨c3,hm⟩
  ·refine qT c3 ?_
   refine qDs [(1, .sh (8:Int) (by decide))] [0, 14] [(0, .int .u64 (Int.fdiv aF (2 ^ min (8:Int).toNat 64)))] ?_
   refine qGs [] [2] [(2, i6 (w64 (n_2 + (8:Int))))] ?_
   exact qX (Int.fdiv aF (2 ^ min (8:Int).toNat 64), w64 (n_2 + (8:Int))) hm
  refine qF c3 ?_
  refine A.skip ?_
  exact qX (aF, n_2) hm
 rintro ⟨aI, n_3⟩ hm
 rw [hJ3] at hm
 obtain ⟨b_1, h1, hm⟩ := aa hm
 refine qS [(3, .is (⟨#[0, 1, 2, 2, 3, 3, 3, 3, 4, 4, 4, 4, 4, 4, 4, 4, 5, 5, 5, 5, 5, 5, 5, 5, 5, 5, 5, 5, 5, 5, 5, 5, 6, 6, 6, 6, 6, 6, 6, 6, 6, 6, 6, 6, 6, 6, 6, 6, 6, 6, 6, 6, 6, 6, 6, 6, 6, 6, 6, 6, 6, 6, 6, 6, 7, 7, 7, 7, 7, 7, 7, 7, 7, 7, 7, 7, 7, 7, 7, 7, 7, 7, 7, 7, 7, 7, 7, 7, 7, 7, 7, 7, 7, 7, 7, 7, 7, 7, 7, 7, 7, 7, 7, 7, 7, 7, 7, 7, 7, 7, 7, 7, 7, 7, 7, 7, 7, 7, 7, 7, 7, 7, 7, 7, 7, 7, 7, 7, 8, 8, 8, 8, 8, 8, 8, 8, 8, 8, 8, 8, 8, 8, 8, 8, 8, 8, 8, 8, 8, 8, 8, 8, 8, 8, 8, 8, 8, 8, 8, 8, 8, 8, 8, 8, 8, 8, 8, 8, 8, 8, 8, 8, 8, 8, 8, 8, 8, 8, 8, 8, 8, 8, 8, 8, 8, 8, 8, 8, 8, 8, 8, 8, 8, 8, 8, 8, 8, 8, 8, 8, 8, 8, 8, 8, 8, 8, 8, 8, 8, 8, 8, 8, 8, 8, 8, 8, 8, 8, 8, 8, 8, 8, 8, 8, 8, 8, 8, 8, 8, 8, 8, 8, 8, 8, 8, 8, 8, 8, 8, 8, 8, 8, 8, 8, 8, 8, 8, 8, 8, 8, 8, 8, 8, 8, 8, 8]⟩ : ByteArray) (IntKind.wrap .u8 aI) b_1 (aex h1))] [(2, i6 (w64 (n_3 + (w64 (b_1.toNat : Int)))))] [] ?_
 cases hm
 exact A.ret qE
theorem vm {xa0 : Int} {r : Int} (hm : o6 xa0 = some r) : RO Try.prog 73 [] [.int .u64 xa0] (i6 r) := by
 refine aZ Try.func73 rfl rfl ?_
 unfold o6 at hm
 refine qS [] [(0, .int .u64 xa0)] [] ?_
 refine A.seq ?_
 refine A.cF rfl rfl ?_
 refine A.skip ?_
 show ah _ _ _ _ _
 obtain ⟨ak, h1, hm⟩ := aa hm
 refine qS [(1, hro (tX h1) anD)] [(2, i6 ak)] [] ?_
 cases hm
 exact A.ret qE
theorem lK  {r : Unit} (hm : eZ = some r) : RO Try.prog 97 [] [.bf, i6 0, i6 0] (.tup []) := by
 refine aZ Try.func97 rfl rfl ?_
 unfold eZ at hm
 refine qS [] [(0, .bf), (1, i6 0), (2, i6 0), (6, i6 1)] [] ?_
 refine A.block ?_
 obtain ⟨F1, n1, hF1, hm⟩ := iJ hm
 refine A.lpW (F := F1) hm (fun sg => match sg with | () => [(0, .bf), (1, i6 0), (2, i6 0), (6, i6 1)]) (fun sg => match sg with | () => []) ?_ ?_
 ·exact qW
 rintro Z1 ⟨⟩ hm
 rw [hF1] at hm
 refine A.seq ?_
 refine qDs [] [] [(12, .bool false)] ?_
 refine A.cF rfl rfl ?_
 refine A.exit ?_
 obtain rfl := some_inj hm
 exact A.fin W0 [] rfl (by kernel_rfl)
theorem nC {limit : Int} {r : Unit} (hm : gw limit = some r) : RO Try.prog 72 [] [.bf, i6 0, i6 0, i6 limit] (.tup []) := by
 refine aZ Try.func72 rfl rfl ?_
 unfold gw at hm
 refine qS [] [(0, .bf), (1, i6 0), (2, i6 0), (3, i6 limit), (8, .bool true)] [] ?_
 refine qDs [] [] [(9, .bool true)] ?_
 refine A.block ?_
 obtain ⟨F1, n1, hF1, hm⟩ := iJ hm
 refine A.lpW (F := F1) hm (fun sg => match sg with | () => [(0, .bf), (1, i6 0), (2, i6 0), (3, i6 limit), (8, .bool true), (9, .bool true)]) (fun sg => match sg with | () => []) ?_ ?_
 ·exact qW
 rintro Z1 ⟨⟩ hm
 rw [hF1] at hm
 refine A.block ?_
 refine qDs [] [] [(10, i6 0)] ?_
 refine A.seq ?_
 refine qDs [] [] [(23, .bool true)] ?_
 refine A.cT rfl rfl ?_
 obtain ⟨ak, h1, hm⟩ := aa hm
 refine qS [(3, ajV 1 (lK h1) ck97)] [] [] ?_
 cases hm
 exact A.ret qE
theorem pF  {r : Unit} (hm : lW = some r) : RO Try.prog 50 [] [.bf] (.tup []) := by
 refine aZ Try.func50 rfl rfl ?_
 unfold lW at hm
 refine qS [] [(0, .bf), (2, i6 0)] [] ?_
 obtain ⟨ak, h1, hm⟩ := aa hm
 obtain ⟨aF, h2, hm⟩ := aa hm
 refine qR [(4, hro (vm h1) ck73), (5, ajV 1 (nC h2) ck72)] [] [] ?_
 obtain rfl := some_inj hm
 exact A.fin W0 [] rfl (by kernel_rfl)
end Go.Proofs.Ytmfehenfoepkfaa
