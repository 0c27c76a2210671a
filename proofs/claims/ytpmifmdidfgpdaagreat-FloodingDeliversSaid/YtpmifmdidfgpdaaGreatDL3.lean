/- Functions of the program, written gB. No condition but bU bB stand in each. -/
import Derived.Test.YtpmifmdidfgpdaaGreatT
import Derived.Test.YtpmifmdidfgpdaaGreatDA
import Derived.Test.YtpmifmdidfgpdaaGreatDL
namespace Go.Proofs.YtpmifmdidfgpdaaGreat
open Go
set_option maxRecDepth 100000
set_option linter.all false
def iC (t : List Int) (raw : aB) (k : Int) : Option Bool :=
 bnd (um t) fun (af : aQ) => bnd (jK af (4:Int) (1000000:Int)) fun (ay : aB × aQ) => bnd (nS ay.2 ay.1 (8:Int)) fun (aJ : aB × aQ) => bnd (jK aJ.2 (3:Int) (400000:Int)) fun (bk : aB × aQ) => whl (fun (Z1 : (Int × (List Int) × Int) → Option _) (sg : Int × (List Int) × Int) => match sg with | (i_1, m_1, m_2) => jn (fun (v_1 : Bool) => bif v_1 then bnd (dL (aQ.mk m_1 m_2) (-1:Int) (3:Int)) fun (bR : Int × aQ) => fW ((3:Int) - (0:Int)).toNat (0:Int) (fun (j2 : Int) (Z2 : Unit → Option _) (sg : Unit) => match sg with | () => bnd (elO ([aJ.1, bk.1, raw] : List aB) i_1) fun (e_1 : aB) => bnd (elO ([k, bR.1, (0:Int)] : List Int) (j2 : Int)) fun (e_2 : Int) => bnd (jB e_1 e_2) fun (cG : aB × Int) => bnd (lV e_1 e_2) fun (cQ : aB × Int) => bnd (lU e_1 e_2) fun (dA : aB × Int) => bnd (oK e_1 e_2) fun (bN : aB × Int) => bnd (fG e_1 e_2) fun (dI : aB × Int) => bnd (mQ e_1 e_2) fun (bZ : aB × Int) => jn (fun (v_2 : Bool) => bif v_2 then some false else Z2 ()) fun J2 => bnd (kP cG.1 cQ.1) fun (fN : Bool) => (bif !fN then J2 true else (bif !decide (cG.2 = cQ.2) then J2 true else bnd (kP dA.1 bN.1) fun (jD : Bool) => (bif !jD then J2 true else (bif !decide (dA.2 = bN.2) then J2 true else bnd (kP dI.1 bZ.1) fun (ji : Bool) => (bif !ji then J2 true else J2 (!decide (dI.2 = bZ.2)))))))) (fun (j2 : Int) (sg : Unit) => match sg with | () => Z1 (w64 (i_1 + (1:Int)), bR.2.L, bR.2.At)) () else bnd (lD) fun (kQ : Bool) => some kQ) fun J1 => (bif decide (i_1 < (([aJ.1, bk.1, raw] : List aB).length:Int)) then bnd (pI raw) fun (bF : Bool) => J1 (!bF) else J1 false)) ((0:Int), bk.2.L, bk.2.At)
end Go.Proofs.YtpmifmdidfgpdaaGreat
