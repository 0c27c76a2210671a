/- Functions of the program, written lz. No condition but bL aY stand in each. -/
import Derived.Test.YtdjeacigeegklaaT
import Derived.Test.YtdjeacigeegklaaDA
import Derived.Test.YtdjeacigeegklaaDL
namespace Go.Proofs.Ytdjeacigeegklaa
open Go
set_option maxRecDepth 100000
set_option linter.all false
noncomputable section
def gM (t : List Int) : Option Bool :=
 bnd (fW t) fun (ay : aQ) => bnd (ia ay (7:Int)) fun (aV : aa × aQ) => bnd (bn aV.2 (aV.1.aC.length:Int)) fun (bu : Int × aQ) => bnd (elO aV.1.aC bu.1) fun (e_1 : aP) => bnd (bn bu.2 (aV.1.aC.length:Int)) fun (aK : Int × aQ) => bnd (elO aV.1.aC aK.1) fun (e_2 : aP) => bif decide (e_1.ID = e_2.ID) then bnd (eU) fun (cO : Bool) => some cO else bnd (fO (aM.mk (8:Int) ([(ah.mk (1:Int) e_1.ID (2:Int) e_2.ID), (ah.mk (6:Int) e_2.ID (3:Int) e_2.ID)] : List ah)) aV.1 (aS.mk (2:Int) (0:Int) (0:Int) (8:Int) (1:Int) (0:Int) (0:Int) (0:Int) (66:Int) (⟨#[]⟩ : ByteArray)) e_1.ID) fun (aU : eF × Int) => bif !decide (aU.2 = (0:Int)) then some false else bif decide ((aU.1.cB.length:Int) = (0:Int)) then (bif decide ((aU.1.ng.length:Int) = (1:Int)) then bnd (elO aU.1.ng (0:Int)) fun (e_3 : cH) => (bif o3 e_3 (cH.mk e_1.ID (2:Int)) then (bif decide ((aU.1.cK.length:Int) = (0:Int)) then bnd (eU) fun (dh : Bool) => some dh else some false) else some false) else some false) else bY aU.1.cB 0 (fun (j1 : Int) (e1 : bp) (Z1 : Int → Option _) (iL : Int) => bif ((!decide (e1.nD = iL)) || (!decide (e1.Bits = (64:Int)))) then some false else Z1 e1.To) (fun (iL : Int) => (bif decide (iL = e_2.ID) then (bif decide ((aU.1.cK.length:Int) = (1:Int)) then bnd (elO aU.1.cK (0:Int)) fun (e_4 : cA) => (bif decide (e_4.aJ.TTL = (0:Int)) then (bif decide (e_4.aJ.Bits = (64:Int)) then bnd (eU) fun (de : Bool) => some de else some false) else some false) else some false) else some false)) e_1.ID
end
end Go.Proofs.Ytdjeacigeegklaa
