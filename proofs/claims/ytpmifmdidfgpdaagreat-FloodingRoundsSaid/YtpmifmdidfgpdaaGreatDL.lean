/- Functions of the program, written gq. No condition but bT bB stand in each. -/
import Derived.Test.YtpmifmdidfgpdaaGreatT
import Derived.Test.YtpmifmdidfgpdaaGreatDA
namespace Go.Proofs.YtpmifmdidfgpdaaGreat
open Go
set_option maxRecDepth 100000
set_option linter.all false
def qM  : Option (aB × Bool) :=
 bnd (pO (aD.mk ([(aY.mk (1:Int) false), (aY.mk (2:Int) false)] : List aY) ([(aQ.mk (1:Int) (2:Int) (1:Int) (1:Int) (0:Int))] : List aQ)) []) fun (af : aB × Int) => bnd (jT af.1 (1:Int)) fun (ay : aB × Int) => bnd (jT ay.1 (2:Int)) fun (aK : aB × Int) => some (aK.1, ((decide (af.2 = (0:Int))) && ((decide (ay.2 = (0:Int))) && (decide (aK.2 = (0:Int))))))
def pF  : Option Bool :=
 bnd (qM) fun (af : aB × Bool) => bnd (iU af.1) fun (ay : aB × Int) => (bif af.2 then (bif decide (ay.2 = (0:Int)) then (bif decide ((ay.1.aC.length:Int) = (2:Int)) then bnd (elO ay.1.aC (0:Int)) fun (e_1 : aV) => (bif decide ((e_1.Database.aq.length:Int) = (2:Int)) then bnd (oq ay.1) fun (aK : Bool) => some aK else some false) else some false) else some false) else some false)
def oV (f : aB) : Option Bool :=
 some ((decide ((100:Int) < (f.Links.length:Int))) || ((decide ((30:Int) < (f.aC.length:Int))) || (decide ((30:Int) < (f.aA.length:Int)))))
def nC (sa0 : aR) (f : aB) (n : Int) : Option (aB × aR) :=
 bnd (fc sa0 n) fun (af : Bool × aR) => bif !af.1 then some (f, af.2) else jn (fun (sg : (List Int) × Int × (List aQ) × (List aV) × (List bn)) => match sg with | (m_1, m_2, m_3, m_4, m_5) => some ((aB.mk m_3 m_4 m_5), (aR.mk m_1 m_2))) fun J1 => bnd (bU af.2 (5:Int)) fun (ay : Int × aR) => bif decide (ay.1 = (0:Int)) then bnd (kJ f.Links (0:Int) (f.Links.length:Int)) fun (l_1 : List aQ) => bnd (cM l_1 ([(aQ.mk (1:Int) (9:Int) (1:Int) (1:Int) (0:Int))] : List aQ)) fun (l_2 : List aQ) => J1 (ay.2.L, ay.2.At, l_2, f.aC, f.aA) else bif decide (ay.1 = (1:Int)) then bnd (kJ f.aC (0:Int) (f.aC.length:Int)) fun (l_3 : List aV) => bnd (bU ay.2 (9:Int)) fun (aK : Int × aR) => bnd (eE aK.2) fun (bh : Int × aR) => bnd (cM l_3 ([(aV.mk aK.1 bh.1 false [] (aF.mk []))] : List aV)) fun (l_4 : List aV) => J1 (bh.2.L, bh.2.At, f.Links, l_4, f.aA) else bif decide (ay.1 = (2:Int)) then bnd (kJ f.aA (0:Int) (f.aA.length:Int)) fun (l_5 : List bn) => bnd (bU ay.2 (4:Int)) fun (bI : Int × aR) => bnd (bU bI.2 (4:Int)) fun (bV : Int × aR) => bnd (cM l_5 ([(bn.mk bI.1 bV.1 (aF.mk []))] : List bn)) fun (l_6 : List bn) => J1 (bV.2.L, bV.2.At, f.Links, f.aC, l_6) else bif decide (ay.1 = (3:Int)) then bnd (kJ f.aC (0:Int) (f.aC.length:Int)) fun (l_7 : List aV) => bnd (gQ ay.2 (1:Int)) fun (cD : aF × aR) => bnd (cM l_7 ([(aV.mk (90:Int) (0:Int) false [] cD.1)] : List aV)) fun (l_8 : List aV) => J1 (cD.2.L, cD.2.At, f.Links, l_8, f.aA) else bnd (kJ f.aC (0:Int) (f.aC.length:Int)) fun (l_9 : List aV) => bnd (bU ay.2 (2:Int)) fun (dg : Int × aR) => bnd (cR dg.2 ([(8:Int), (9:Int)] : List Int)) fun (dB : Int × aR) => bnd (cM l_9 ([(aV.mk (91:Int) (0:Int) false ([(bz.mk (0:Int) dg.1 dB.1)] : List bz) (aF.mk []))] : List aV)) fun (aej : List aV) => J1 (dB.2.L, dB.2.At, f.Links, aej, f.aA)
end Go.Proofs.YtpmifmdidfgpdaaGreat
