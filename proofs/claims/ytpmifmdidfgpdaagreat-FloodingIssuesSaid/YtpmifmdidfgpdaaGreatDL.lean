/- Functions of the program, written gI. No condition but bT bF stand in each. -/
import Derived.Test.YtpmifmdidfgpdaaGreatT
import Derived.Test.YtpmifmdidfgpdaaGreatDA
namespace Go.Proofs.YtpmifmdidfgpdaaGreat
open Go
set_option maxRecDepth 100000
set_option linter.all false
def rH  : Option (aA × Bool) :=
 bnd (qe (aB.mk ([(aZ.mk (1:Int) false), (aZ.mk (2:Int) false)] : List aZ) ([(aX.mk (1:Int) (2:Int) (1:Int) (1:Int) (0:Int))] : List aX)) []) fun (af : aA × Int) => bnd (fC af.1 (1:Int)) fun (aq : aA × Int) => bnd (fC aq.1 (2:Int)) fun (aI : aA × Int) => some (aI.1, ((decide (af.2 = (0:Int))) && ((decide (aq.2 = (0:Int))) && (decide (aI.2 = (0:Int))))))
def oc  : Option Bool :=
 bnd (rH) fun (af : aA × Bool) => bnd (qf af.1) fun (aq : aA × Int) => (bif af.2 then (bif decide (aq.2 = (0:Int)) then (bif decide ((aq.1.aG.length:Int) = (2:Int)) then bnd (elO aq.1.aG (0:Int)) fun (e_1 : aU) => (bif decide ((e_1.Database.ay.length:Int) = (2:Int)) then bnd (iB aq.1) fun (aI : Bool) => some aI else some false) else some false) else some false) else some false)
def kM (f : aA) : Option Bool :=
 some ((decide ((100:Int) < (f.Links.length:Int))) || ((decide ((30:Int) < (f.aG.length:Int))) || (decide ((30:Int) < (f.aF.length:Int)))))
def lP (sa0 : aP) (f : aA) (n : Int) : Option (aA × aP) :=
 bnd (fF sa0 n) fun (af : Bool × aP) => bif !af.1 then some (f, af.2) else jn (fun (sg : (List Int) × Int × (List aX) × (List aU) × (List bP)) => match sg with | (m_1, m_2, m_3, m_4, m_5) => some ((aA.mk m_3 m_4 m_5), (aP.mk m_1 m_2))) fun J1 => bnd (bV af.2 (5:Int)) fun (aq : Int × aP) => bif decide (aq.1 = (0:Int)) then bnd (mO f.Links (0:Int) (f.Links.length:Int)) fun (l_1 : List aX) => bnd (cM l_1 ([(aX.mk (1:Int) (9:Int) (1:Int) (1:Int) (0:Int))] : List aX)) fun (l_2 : List aX) => J1 (aq.2.L, aq.2.At, l_2, f.aG, f.aF) else bif decide (aq.1 = (1:Int)) then bnd (mO f.aG (0:Int) (f.aG.length:Int)) fun (l_3 : List aU) => bnd (bV aq.2 (9:Int)) fun (aI : Int × aP) => bnd (eW aI.2) fun (bk : Int × aP) => bnd (cM l_3 ([(aU.mk aI.1 bk.1 false [] (aH.mk []))] : List aU)) fun (l_4 : List aU) => J1 (bk.2.L, bk.2.At, f.Links, l_4, f.aF) else bif decide (aq.1 = (2:Int)) then bnd (mO f.aF (0:Int) (f.aF.length:Int)) fun (l_5 : List bP) => bnd (bV aq.2 (4:Int)) fun (bG : Int × aP) => bnd (bV bG.2 (4:Int)) fun (b9 : Int × aP) => bnd (cM l_5 ([(bP.mk bG.1 b9.1 (aH.mk []))] : List bP)) fun (l_6 : List bP) => J1 (b9.2.L, b9.2.At, f.Links, f.aG, l_6) else bif decide (aq.1 = (3:Int)) then bnd (mO f.aG (0:Int) (f.aG.length:Int)) fun (l_7 : List aU) => bnd (iy aq.2 (1:Int)) fun (ct : aH × aP) => bnd (cM l_7 ([(aU.mk (90:Int) (0:Int) false [] ct.1)] : List aU)) fun (l_8 : List aU) => J1 (ct.2.L, ct.2.At, f.Links, l_8, f.aF) else bnd (mO f.aG (0:Int) (f.aG.length:Int)) fun (l_9 : List aU) => bnd (bV aq.2 (2:Int)) fun (dw : Int × aP) => bnd (cV dw.2 ([(8:Int), (9:Int)] : List Int)) fun (dK : Int × aP) => bnd (cM l_9 ([(aU.mk (91:Int) (0:Int) false ([(bx.mk (0:Int) dw.1 dK.1)] : List bx) (aH.mk []))] : List aU)) fun (afh : List aU) => J1 (dK.2.L, dK.2.At, f.Links, afh, f.aF)
end Go.Proofs.YtpmifmdidfgpdaaGreat
