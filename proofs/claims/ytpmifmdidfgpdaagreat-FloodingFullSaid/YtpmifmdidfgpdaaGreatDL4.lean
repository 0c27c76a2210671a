/- Functions of the program, written gB. No condition but bU bB stand in each. -/
import Derived.Test.YtpmifmdidfgpdaaGreatT
import Derived.Test.YtpmifmdidfgpdaaGreatDA
import Derived.Test.YtpmifmdidfgpdaaGreatDL
namespace Go.Proofs.YtpmifmdidfgpdaaGreat
open Go
set_option maxRecDepth 100000
set_option linter.all false
def kj (n : Int) : Option Bool :=
 bnd (mS) fun (af : aB × Bool) => whl (fun (Z1 : (Int × (List br)) → Option _) (sg : Int × (List br)) => match sg with | (i_1, m_1) => bif decide ((0:Int) < i_1) then bnd (cI m_1 ([(br.mk (1:Int) (2:Int) (aD.mk []))] : List br)) fun (l_1 : List br) => Z1 (w64 (i_1 - (1:Int)), l_1) else bnd (lT (aB.mk af.1.Links af.1.aG m_1) (1:Int)) fun (ay : aB × Int) => bnd (fG (aB.mk af.1.Links af.1.aG m_1) (0:Int)) fun (aJ : aB × Int) => bif decide (Int.tmod n (3:Int) = (0:Int)) then (bif af.2 then (bif decide (ay.2 = (3:Int)) then (bif decide (aJ.2 = (3:Int)) then bnd (lD) fun (bk : Bool) => some bk else some false) else some false) else some false) else (bif af.2 then (bif decide (ay.2 = (0:Int)) then (bif decide (aJ.2 = (0:Int)) then (bif decide ((ay.1.aj.length:Int) = w64 ((m_1.length:Int) + (1:Int))) then (bif decide ((aJ.1.aj.length:Int) = w64 ((m_1.length:Int) + (1:Int))) then bnd (lD) fun (bF : Bool) => some bF else some false) else some false) else some false) else some false) else some false)) (w64 ((400:Int) - (w64 (Int.tmod n (3:Int)))), af.1.aj)
end Go.Proofs.YtpmifmdidfgpdaaGreat
