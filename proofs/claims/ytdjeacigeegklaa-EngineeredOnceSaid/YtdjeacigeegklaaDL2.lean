/- Functions of the program, written lz. No condition but bL aY stand in each. -/
import Derived.Test.YtdjeacigeegklaaT
import Derived.Test.YtdjeacigeegklaaDA
import Derived.Test.YtdjeacigeegklaaDL
namespace Go.Proofs.Ytdjeacigeegklaa
open Go
set_option maxRecDepth 100000
set_option linter.all false
noncomputable section
def iu (t : List Int) : Option Bool :=
 bnd (fW t) fun (ay : aQ) => bnd (ia ay (6:Int)) fun (aV : aa × aQ) => bnd (kS aV.2 aV.1) fun (bu : aM × aQ) => bnd (jg bu.2 bu.1) fun (aK : aS × aQ) => bnd (bn aK.2 (aV.1.aC.length:Int)) fun (cO : Int × aQ) => bnd (elO aV.1.aC cO.1) fun (e_1 : aP) => jY ((30:Int) - (0:Int)).toNat (0:Int) (fun (j1 : Int) (Z1 : (Int × (List Int) × Int × Int × Int × Int × Int × Int × Int × Int × Int × ByteArray × (List Int) × Int) → Option _) (sg : Int × (List Int) × Int × Int × Int × Int × Int × Int × Int × Int × Int × ByteArray × (List Int) × Int) => match sg with | (sE, oE, m_1, m_2, m_3, m_4, m_5, m_6, m_7, m_8, m_9, fZ, en, fK) => bnd (gL bu.1 sE (aS.mk m_1 m_2 m_3 m_4 m_5 m_6 m_7 m_8 m_9 fZ)) fun (aU : fI × Int) => bif ((!decide (aU.2 = (0:Int))) || (!decide (aU.1.mg = (0:Int)))) then some false else bnd (jm oE sE) fun (dh : Bool) => bif dh then (bif decide (aU.1.Local = (0:Int)) then (bif decide ((aU.1.kH.length:Int) = (0:Int)) then bnd (eU) fun (de : Bool) => some de else some false) else some false) else bnd (eR oE ([sE] : List Int)) fun (l_1 : List Int) => bif decide ((aU.1.kH.length:Int) = (0:Int)) then bnd (eU) fun (iG : Bool) => some iG else bnd (bn (aQ.mk en fK) (aU.1.kH.length:Int)) fun (gV : Int × aQ) => bnd (elO aU.1.kH gV.1) fun (e_2 : gU) => bif ((!decide (bH .andNot .u64 e_2.Frame.aJ.Bits m_9 = (0:Int))) || ((decide (e_2.Frame.aJ.Bits = m_9)) || (!decide (e_2.Frame.aJ.TTL = w64 (m_5 - (1:Int)))))) then some false else Z1 (e_2.To, l_1, e_2.Frame.aJ.Mode, e_2.Frame.aJ.bQ, e_2.Frame.aJ.Set, e_2.Frame.aJ.Length, e_2.Frame.aJ.TTL, e_2.Frame.aJ.cv, e_2.Frame.aJ.cw, e_2.Frame.aJ.dx, e_2.Frame.aJ.Bits, e_2.Frame.aJ.cz, gV.2.L, gV.2.At)) (fun (j1 : Int) (sg : Int × (List Int) × Int × Int × Int × Int × Int × Int × Int × Int × Int × ByteArray × (List Int) × Int) => match sg with | (sE, oE, m_1, m_2, m_3, m_4, m_5, m_6, m_7, m_8, m_9, fZ, en, fK) => some false) (e_1.ID, [], aK.1.Mode, aK.1.bQ, aK.1.Set, aK.1.Length, (63:Int), aK.1.cv, aK.1.cw, aK.1.dx, aK.1.Bits, aK.1.cz, cO.2.L, cO.2.At)
end
end Go.Proofs.Ytdjeacigeegklaa
