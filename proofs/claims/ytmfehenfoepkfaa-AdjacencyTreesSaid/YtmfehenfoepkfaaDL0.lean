/- Functions of the program, written l8. No condition but bR bw stand in each. -/
import Derived.Test.YtmfehenfoepkfaaT
import Derived.Test.YtmfehenfoepkfaaDA
import Derived.Test.YtmfehenfoepkfaaDL
import Derived.Test.YtmfehenfoepkfaaDLB
namespace Go.Proofs.Ytmfehenfoepkfaa
open Go
set_option maxRecDepth 100000
set_option linter.all false
noncomputable section
def hU (t : List Int) (raw : bB) (receivers : List Int) : Option Bool :=
 bif ((decide ((40:Int) < (raw.Links.length:Int))) || (decide ((40:Int) < (receivers.length:Int)))) then bnd (dI) fun (ak : Bool) => some ak else bnd (eO t) fun (aF : aC) => bnd (fu aF (7:Int)) fun (aI : aj × aC) => bnd (jl aI.2 aI.1) fun (aU : aB × aC) => bnd (jk aU.2 aI.1) fun (aX : Int × aC) => bnd (lQ aX.2 aI.1 aX.1) fun (aS : bB × aC) => bnd (gd aS.2 aS.1) fun (bh : bB × aC) => bnd (gd bh.2 aS.1) fun (cC : bB × aC) => bnd (gd cC.2 cC.1) fun (cI : bB × aC) => bn ([raw, aS.1, bh.1, cI.1] : List bB) 0 (fun (j1 : Int) (e1 : bB) (Z1 : ((List Int) × Int) → Option _) (sg : (List Int) × Int) => match sg with | (m_1, m_2) => jn (fun (v_1 : Bool) => bif v_1 then some false else bnd (eV aS.1) fun (gM : (List Int)) => bnd (o8 (aC.mk m_1 m_2) aI.1 (4:Int)) fun (eW : (List Int) × aC) => bn ([receivers, gM, eW.1, []] : List (List Int)) 0 (fun (j2 : Int) (e2 : List Int) (Z2 : ((List Int) × Int) → Option _) (sg : (List Int) × Int) => match sg with | (m_3, m_4) => bnd (kY (aC.mk m_3 m_4) aU.1) fun (eX : aB × aC) => bn ([aU.1, eX.1] : List aB) 0 (fun (j3 : Int) (e3 : aB) (Z3 : Unit → Option _) (sg : Unit) => match sg with | () => bnd (fk e3 e1 e2) fun (fQ : Int × Int) => bnd (mP e3 e1 e2) fun (kr : Int × Int) => bif ((!decide (fQ.2 = kr.2)) || (!decide (fQ.1 = kr.1))) then some false else Z3 ()) (fun (sg : Unit) => match sg with | () => Z2 (eX.2.L, eX.2.At)) ()) (fun (sg : (List Int) × Int) => match sg with | (m_3, m_4) => Z1 (m_3, m_4)) (eW.2.L, eW.2.At)) fun J1 => bnd (ei e1) fun (gr : Int) => bnd (fE e1) fun (eM : Int) => (bif !decide (gr = eM) then J1 true else bnd (fL e1) fun (dZ : (List Int)) => bnd (eV e1) fun (cW : (List Int)) => bnd (gn dZ cW) fun (pg : Bool) => J1 (!pg))) (fun (sg : (List Int) × Int) => match sg with | (m_1, m_2) => bnd (dI) fun (qJ : Bool) => some qJ) (cI.2.L, cI.2.At)
end
end Go.Proofs.Ytmfehenfoepkfaa
