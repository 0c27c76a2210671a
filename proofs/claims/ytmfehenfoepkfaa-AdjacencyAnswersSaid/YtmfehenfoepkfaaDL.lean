/- Functions of the program, written l8. No condition but bR bw stand in each. -/
import Derived.Test.YtmfehenfoepkfaaT
import Derived.Test.YtmfehenfoepkfaaDA
namespace Go.Proofs.Ytmfehenfoepkfaa
open Go
set_option maxRecDepth 100000
set_option linter.all false
noncomputable section
def rP  : Option aj :=
 some (aj.mk ([(aN.mk (1:Int) true), (aN.mk (2:Int) true)] : List aN) ([(aV.mk (1:Int) (2:Int) (1:Int) (1:Int) (0:Int))] : List aV))
def dI  : Option Bool :=
 bnd (rP) fun (ak : aj) => bnd (ga ak (8:Int)) fun (aF : aB × Int) => bnd (fk aF.1 (bB.mk (1:Int) ([(bq.mk (1:Int) (2:Int))] : List bq)) ([(2:Int)] : List Int)) fun (aI : Int × Int) => (bif decide (aF.2 = (0:Int)) then (bif decide (aI.2 = (0:Int)) then (bif decide ((aF.1.List.length:Int) = (4:Int)) then bnd (elO aF.1.List (3:Int)) fun (e_1 : ai) => (bif ee e_1 (ai.mk (3:Int) (2:Int) (1:Int) (1:Int)) then some (decide (aI.1 = (6:Int))) else some false) else some false) else some false) else some false)
def gd (sa0 : aC) (t : bB) : Option (bB × aC) :=
 bnd (dV ([] : List bq) t.Links) fun (l_1 : List bq) => bif decide ((l_1.length:Int) = (0:Int)) then bnd (cn sa0 (0:Int) (3:Int)) fun (ak : Int × aC) => bnd (cn ak.2 (0:Int) (3:Int)) fun (aF : Int × aC) => some ((bB.mk t.bL ([(bq.mk ak.1 aF.1)] : List bq)), aF.2) else bnd (aK sa0 (l_1.length:Int)) fun (aI : Int × aC) => bnd (elO l_1 aI.1) fun (e_1 : bq) => jn (fun (sg : (List Int) × Int × Int × (List bq)) => match sg with | (m_1, m_2, m_3, m_4) => some ((bB.mk m_3 m_4), (aC.mk m_1 m_2))) fun J1 => bnd (aK aI.2 (5:Int)) fun (aU : Int × aC) => bif decide (aU.1 = (0:Int)) then bnd (bx aU.2 ([(0:Int), (100:Int), e_1.To, (50:Int)] : List Int)) fun (aX : Int × aC) => J1 (aX.2.L, aX.2.At, aX.1, l_1) else bif decide (aU.1 = (1:Int)) then bnd (bx aU.2 ([(0:Int), t.bL, e_1.bJ, (100:Int)] : List Int)) fun (aS : Int × aC) => bnd (lF l_1 aI.1 (bq.mk e_1.bJ aS.1)) fun (l_2 : List bq) => J1 (aS.2.L, aS.2.At, t.bL, l_2) else bif decide (aU.1 = (2:Int)) then bnd (bx aU.2 ([(0:Int), (77:Int), (100:Int)] : List Int)) fun (bh : Int × aC) => bnd (lF l_1 aI.1 (bq.mk bh.1 e_1.To)) fun (l_3 : List bq) => J1 (bh.2.L, bh.2.At, t.bL, l_3) else bif decide (aU.1 = (3:Int)) then bnd (elO l_1 (0:Int)) fun (e_2 : bq) => bnd (dV l_1 ([e_2] : List bq)) fun (l_4 : List bq) => J1 (aU.2.L, aU.2.At, t.bL, l_4) else bnd (l9 l_1 (1:Int) (l_1.length:Int)) fun (l_5 : List bq) => bnd (dV ([] : List bq) l_5) fun (l_6 : List bq) => J1 (aU.2.L, aU.2.At, t.bL, l_6)
def nT (e : aB) : Option Bool :=
 some (decide ((e.List.length:Int) ≤ (80:Int)))
end
end Go.Proofs.Ytmfehenfoepkfaa
