/- Functions of the program, written gI. No condition but bT bF stand in each. -/
import Derived.Test.YtpmifmdidfgpdaaGreatT
import Derived.Test.YtpmifmdidfgpdaaGreatDA
import Derived.Test.YtpmifmdidfgpdaaGreatDL
namespace Go.Proofs.YtpmifmdidfgpdaaGreat
open Go
set_option maxRecDepth 100000
set_option linter.all false
def jB (t : List Int) (raw : aA) (ra2 : Int) : Option Bool :=
 bnd (si t) fun (af : aP) => bnd (iO af (4:Int) (1000000:Int)) fun (aq : aA × aP) => bnd (lP aq.2 aq.1 (2:Int)) fun (aI : aA × aP) => bnd (iO aI.2 (3:Int) (5:Int)) fun (bk : aA × aP) => whl (fun (Z1 : (Int × (List Int) × Int) → Option _) (sg : Int × (List Int) × Int) => match sg with | (i_1, m_1, m_2) => jn (fun (v_1 : Bool) => bif v_1 then jn (fun (v_2 : Bool) => bif v_2 then some false else bnd (dG (aP.mk m_1 m_2) (0:Int) (5:Int)) fun (dL : Int × aP) => eU ((2:Int) - (0:Int)).toNat (0:Int) (fun (j2 : Int) (Z2 : Unit → Option _) (sg : Unit) => match sg with | () => bnd (elO ([aI.1, bk.1, raw] : List aA) i_1) fun (e_2 : aA) => bnd (elO ([ra2, dL.1] : List Int) (j2 : Int)) fun (e_3 : Int) => bnd (ni e_2 e_3) fun (gb : ak × Bool) => bnd (ot e_2 e_3) fun (fJ : ak × Bool) => jn (fun (v_3 : Bool) => bif v_3 then some false else Z2 ()) fun J3 => bnd (kV gb.1 fJ.1) fun (lS : Bool) => (bif !lS then J3 true else J3 (!(gb.2 == fJ.2)))) (fun (j2 : Int) (sg : Unit) => match sg with | () => Z1 (w64 (i_1 + (1:Int)), dL.2.L, dL.2.At)) ()) fun J2 => bnd (elO ([aI.1, bk.1, raw] : List aA) i_1) fun (e_1 : aA) => bnd (ee e_1) fun (b9 : Int) => bnd (n9 e_1) fun (ct : Int) => (bif !decide (b9 = ct) then J2 true else bnd (iB e_1) fun (dw : Bool) => bnd (l9 e_1) fun (dK : Bool) => (bif !(dw == dK) then J2 true else bnd (dD e_1) fun (bK : aB) => bnd (ef e_1) fun (dA : aB) => bnd (mT bK dA) fun (bZ : Bool) => J2 (!bZ))) else bnd (oc) fun (mG : Bool) => some mG) fun J1 => (bif decide (i_1 < (([aI.1, bk.1, raw] : List aA).length:Int)) then bnd (kM raw) fun (bG : Bool) => J1 (!bG) else J1 false)) ((0:Int), bk.2.L, bk.2.At)
end Go.Proofs.YtpmifmdidfgpdaaGreat
