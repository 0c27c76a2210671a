/- Functions of the program, written gq. No condition but bT bB stand in each. -/
import Derived.Test.YtpmifmdidfgpdaaGreatT
import Derived.Test.YtpmifmdidfgpdaaGreatDA
import Derived.Test.YtpmifmdidfgpdaaGreatDL
namespace Go.Proofs.YtpmifmdidfgpdaaGreat
open Go
set_option maxRecDepth 100000
set_option linter.all false
def jd (t : List Int) (raw : aB) : Option Bool :=
 bnd (tP t) fun (af : aR) => bnd (jB af (4:Int) (1000000:Int)) fun (ay : aB × aR) => bnd (nC ay.2 ay.1 (8:Int)) fun (aK : aB × aR) => bnd (jB aK.2 (4:Int) (400000:Int)) fun (bh : aB × aR) => whl (fun (Z1 : Int → Option _) (i_1 : Int) => jn (fun (v_1 : Bool) => bif v_1 then bnd (elO ([aK.1, bh.1, raw] : List aB) i_1) fun (e_1 : aB) => bnd (iU e_1) fun (bV : aB × Int) => bnd (nB e_1) fun (cD : aB × Int) => jn (fun (v_2 : Bool) => bif v_2 then some false else Z1 (w64 (i_1 + (1:Int)))) fun J2 => bnd (ou bV.1 cD.1) fun (dg : Bool) => (bif !dg then J2 true else J2 (!decide (bV.2 = cD.2))) else bnd (pF) fun (dB : Bool) => some dB) fun J1 => (bif decide (i_1 < (([aK.1, bh.1, raw] : List aB).length:Int)) then bnd (oV raw) fun (bI : Bool) => J1 (!bI) else J1 false)) (0:Int)
end Go.Proofs.YtpmifmdidfgpdaaGreat
