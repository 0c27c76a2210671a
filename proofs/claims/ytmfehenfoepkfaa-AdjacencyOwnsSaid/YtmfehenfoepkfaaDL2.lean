/- Functions of the program, written l8. No condition but bR bw stand in each. -/
import Derived.Test.YtmfehenfoepkfaaT
import Derived.Test.YtmfehenfoepkfaaDA
import Derived.Test.YtmfehenfoepkfaaDL
namespace Go.Proofs.Ytmfehenfoepkfaa
open Go
set_option maxRecDepth 100000
set_option linter.all false
noncomputable section
def iG (t : List Int) : Option Bool :=
 bnd (eO t) fun (ak : aC) => bnd (fu ak (8:Int)) fun (aF : aj × aC) => bnd (jl aF.2 aF.1) fun (aI : aB × aC) => jh ((100:Int) - (1:Int)).toNat (1:Int) (fun (j1 : Int) (Z1 : Int → Option _) (mz : Int) => bnd (fJ aI.1 (j1 : Int)) fun (aU : Int) => bif !decide (cg .and .u64 mz aU = (0:Int)) then some false else Z1 (cg .or .u64 mz aU)) (fun (j1 : Int) (mz : Int) => bn aI.1.List 0 (fun (j2 : Int) (e2 : ai) (Z2 : Int → Option _) (mS : Int) => chk (decide (0 ≤ IntKind.wrap .u64 e2.Bit)) <| bnd (fZ aI.1 e2.aT e2.Kind e2.To) fun (aX : Int × Bool) => jn (fun (v_1 : Bool) => bif v_1 then some false else Z2 (cg .or .u64 mS (IntKind.wrap .u64 ((1:Int) * 2 ^ min (IntKind.wrap .u64 e2.Bit).toNat 64)))) fun J1 => (bif !aX.2 then J1 true else (bif !decide (aX.1 = e2.Bit) then J1 true else bnd (fJ aI.1 e2.aT) fun (aS : Int) => chk (decide (0 ≤ IntKind.wrap .u64 aX.1)) <| J1 (decide (cg .and .u64 aS (IntKind.wrap .u64 ((1:Int) * 2 ^ min (IntKind.wrap .u64 aX.1).toNat 64)) = (0:Int)))))) (fun (mS : Int) => (bif decide (mz = mS) then bnd (gW aI.1 aF.1) fun (bh : Int) => (bif decide (bh = (0:Int)) then bnd (dI) fun (cC : Bool) => some cC else some false) else some false)) (0:Int)) (0:Int)
end
end Go.Proofs.Ytmfehenfoepkfaa
