/- Functions of the program, written gI. No condition but bT bF stand in each. -/
import Derived.Test.YtpmifmdidfgpdaaGreatT
import Derived.Test.YtpmifmdidfgpdaaGreatDA
import Derived.Test.YtpmifmdidfgpdaaGreatDL
namespace Go.Proofs.YtpmifmdidfgpdaaGreat
open Go
set_option maxRecDepth 100000
set_option linter.all false
def jC (t : List Int) (raw : aA) (ra2 : Int) : Option Bool :=
 bnd (si t) fun (af : aP) => bnd (iO af (4:Int) (1000000:Int)) fun (aq : aA × aP) => bnd (lP aq.2 aq.1 (8:Int)) fun (aI : aA × aP) => whl (fun (Z1 : (Int × (List Int) × Int) → Option _) (sg : Int × (List Int) × Int) => match sg with | (i_1, m_1, m_2) => jn (fun (v_1 : Bool) => bif v_1 then bnd (dG (aP.mk m_1 m_2) (0:Int) (5:Int)) fun (bG : Int × aP) => eU ((2:Int) - (0:Int)).toNat (0:Int) (fun (j2 : Int) (Z2 : Unit → Option _) (sg : Unit) => match sg with | () => bnd (elO ([aI.1, raw] : List aA) i_1) fun (e_1 : aA) => bnd (elO ([ra2, bG.1] : List Int) (j2 : Int)) fun (e_2 : Int) => bnd (fC e_1 e_2) fun (b9 : aA × Int) => bnd (kj e_1 e_2) fun (ct : aA × Int) => bnd (jN e_1 e_2) fun (dw : aA × Int) => bnd (l8 e_1 e_2) fun (dK : aA × Int) => bnd (l7 e_1 e_2) fun (bK : aA × Int) => bnd (oS e_1 e_2) fun (dA : aA × Int) => jn (fun (v_2 : Bool) => bif v_2 then some false else Z2 ()) fun J2 => bnd (kX b9.1 ct.1) fun (bZ : Bool) => (bif !bZ then J2 true else (bif !decide (b9.2 = ct.2) then J2 true else bnd (kX dw.1 dK.1) fun (dL : Bool) => (bif !dL then J2 true else (bif !decide (dw.2 = dK.2) then J2 true else bnd (kX bK.1 dA.1) fun (gb : Bool) => (bif !gb then J2 true else J2 (!decide (bK.2 = dA.2)))))))) (fun (j2 : Int) (sg : Unit) => match sg with | () => Z1 (w64 (i_1 + (1:Int)), bG.2.L, bG.2.At)) () else bnd (oc) fun (fJ : Bool) => some fJ) fun J1 => (bif decide (i_1 < (([aI.1, raw] : List aA).length:Int)) then bnd (kM raw) fun (bk : Bool) => J1 (!bk) else J1 false)) ((0:Int), aI.2.L, aI.2.At)
end Go.Proofs.YtpmifmdidfgpdaaGreat
