/- Functions of the program, written gB. No condition but bU bB stand in each. -/
import Derived.Test.YtpmifmdidfgpdaaGreatT
import Derived.Test.YtpmifmdidfgpdaaGreatDA
namespace Go.Proofs.YtpmifmdidfgpdaaGreat
open Go
set_option maxRecDepth 100000
set_option linter.all false
def mS  : Option (aB × Bool) :=
 bnd (qf (aH.mk ([(aX.mk (1:Int) false), (aX.mk (2:Int) false)] : List aX) ([(aT.mk (1:Int) (2:Int) (1:Int) (1:Int) (0:Int))] : List aT)) []) fun (af : aB × Int) => bnd (kg af.1 (1:Int)) fun (ay : aB × Int) => bnd (kg ay.1 (2:Int)) fun (aJ : aB × Int) => some (aJ.1, ((decide (af.2 = (0:Int))) && ((decide (ay.2 = (0:Int))) && (decide (aJ.2 = (0:Int))))))
def lD  : Option Bool :=
 bnd (mS) fun (af : aB × Bool) => bnd (qg af.1) fun (ay : aB × Int) => (bif af.2 then (bif decide (ay.2 = (0:Int)) then (bif decide ((ay.1.aG.length:Int) = (2:Int)) then bnd (elO ay.1.aG (0:Int)) fun (e_1 : aZ) => (bif decide ((e_1.Database.az.length:Int) = (2:Int)) then bnd (oI ay.1) fun (aJ : Bool) => some aJ else some false) else some false) else some false) else some false)
def pI (f : aB) : Option Bool :=
 some ((decide ((100:Int) < (f.Links.length:Int))) || ((decide ((30:Int) < (f.aG.length:Int))) || (decide ((30:Int) < (f.aj.length:Int)))))
def nS (sa0 : aQ) (f : aB) (n : Int) : Option (aB × aQ) :=
 bnd (fk sa0 n) fun (af : Bool × aQ) => bif !af.1 then some (f, af.2) else jn (fun (sg : (List Int) × Int × (List aT) × (List aZ) × (List br)) => match sg with | (m_1, m_2, m_3, m_4, m_5) => some ((aB.mk m_3 m_4 m_5), (aQ.mk m_1 m_2))) fun J1 => bnd (bV af.2 (5:Int)) fun (ay : Int × aQ) => bif decide (ay.1 = (0:Int)) then bnd (kX f.Links (0:Int) (f.Links.length:Int)) fun (l_1 : List aT) => bnd (cI l_1 ([(aT.mk (1:Int) (9:Int) (1:Int) (1:Int) (0:Int))] : List aT)) fun (l_2 : List aT) => J1 (ay.2.L, ay.2.At, l_2, f.aG, f.aj) else bif decide (ay.1 = (1:Int)) then bnd (kX f.aG (0:Int) (f.aG.length:Int)) fun (l_3 : List aZ) => bnd (bV ay.2 (9:Int)) fun (aJ : Int × aQ) => bnd (eO aJ.2) fun (bk : Int × aQ) => bnd (cI l_3 ([(aZ.mk aJ.1 bk.1 false [] (aD.mk []))] : List aZ)) fun (l_4 : List aZ) => J1 (bk.2.L, bk.2.At, f.Links, l_4, f.aj) else bif decide (ay.1 = (2:Int)) then bnd (kX f.aj (0:Int) (f.aj.length:Int)) fun (l_5 : List br) => bnd (bV ay.2 (4:Int)) fun (bF : Int × aQ) => bnd (bV bF.2 (4:Int)) fun (bR : Int × aQ) => bnd (cI l_5 ([(br.mk bF.1 bR.1 (aD.mk []))] : List br)) fun (l_6 : List br) => J1 (bR.2.L, bR.2.At, f.Links, f.aG, l_6) else bif decide (ay.1 = (3:Int)) then bnd (kX f.aG (0:Int) (f.aG.length:Int)) fun (l_7 : List aZ) => bnd (gZ ay.2 (1:Int)) fun (cG : aD × aQ) => bnd (cI l_7 ([(aZ.mk (90:Int) (0:Int) false [] cG.1)] : List aZ)) fun (l_8 : List aZ) => J1 (cG.2.L, cG.2.At, f.Links, l_8, f.aj) else bnd (kX f.aG (0:Int) (f.aG.length:Int)) fun (l_9 : List aZ) => bnd (bV ay.2 (2:Int)) fun (cQ : Int × aQ) => bnd (cS cQ.2 ([(8:Int), (9:Int)] : List Int)) fun (dA : Int × aQ) => bnd (cI l_9 ([(aZ.mk (91:Int) (0:Int) false ([(bz.mk (0:Int) cQ.1 dA.1)] : List bz) (aD.mk []))] : List aZ)) fun (aeP : List aZ) => J1 (dA.2.L, dA.2.At, f.Links, aeP, f.aj)
end Go.Proofs.YtpmifmdidfgpdaaGreat
