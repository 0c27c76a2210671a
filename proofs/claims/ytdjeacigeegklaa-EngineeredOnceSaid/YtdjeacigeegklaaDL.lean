/- Functions of the program, written lz. No condition but bL aY stand in each. -/
import Derived.Test.YtdjeacigeegklaaT
import Derived.Test.YtdjeacigeegklaaDA
namespace Go.Proofs.Ytdjeacigeegklaa
open Go
set_option maxRecDepth 100000
set_option linter.all false
noncomputable section
def ny  : Option aa :=
 some (aa.mk ([(aP.mk (1:Int) true), (aP.mk (2:Int) true), (aP.mk (3:Int) true)] : List aP) ([(bf.mk (1:Int) (2:Int) (1:Int) (1:Int) (0:Int)), (bf.mk (2:Int) (3:Int) (1:Int) (1:Int) (0:Int))] : List bf))
def eU  : Option Bool :=
 bnd (ny) fun (ay : aa) => bnd (kN ay (8:Int)) fun (aV : aM × Int) => bnd (ny) fun (bu : aa) => bnd (fO aV.1 bu (aS.mk (2:Int) (0:Int) (0:Int) (8:Int) (9:Int) (0:Int) (0:Int) (0:Int) (50:Int) (⟨#[]⟩ : ByteArray)) (1:Int)) fun (aK : eF × Int) => (bif decide (aK.2 = (0:Int)) then (bif decide ((aK.1.cK.length:Int) = (1:Int)) then bnd (elO aK.1.cK (0:Int)) fun (e_1 : cA) => (bif decide (e_1.aR = (3:Int)) then (bif decide ((aK.1.cB.length:Int) = (2:Int)) then bnd (elO aK.1.cB (0:Int)) fun (e_2 : bp) => (bif decide (e_2.Bits = (48:Int)) then bnd (elO aK.1.cB (1:Int)) fun (e_3 : bp) => some (decide (e_3.Bits = (32:Int))) else some false) else some false) else some false) else some false) else some false)
def jg (sa0 : aQ) (e : aM) : Option (aS × aQ) :=
 bnd (cN sa0 ([(63:Int), (63:Int), (30:Int), (3:Int), (1:Int), (0:Int)] : List Int)) fun (ay : Int × aQ) => bnd (bn ay.2 (1024:Int)) fun (aV : Int × aQ) => bnd (bn aV.2 (8:Int)) fun (bu : Int × aQ) => bnd (cN bu.2 ([(2:Int), (3:Int), (6:Int)] : List Int)) fun (aK : Int × aQ) => bY e.List 0 (fun (j1 : Int) (e1 : ah) (Z1 : (Int × (List Int) × Int) → Option _) (sg : Int × (List Int) × Int) => match sg with | (m_1, m_2, m_3) => jn (fun (sg : (List Int) × Int × Int) => match sg with | (m_4, m_5, m_6) => Z1 (m_6, m_4, m_5)) fun J1 => bnd (bn (aQ.mk m_2 m_3) aK.1) fun (cO : Int × aQ) => bif decide ((0:Int) < cO.1) then chk (decide (0 ≤ IntKind.wrap .u64 e1.Bit)) <| J1 (cO.2.L, cO.2.At, bH .or .u64 m_1 (IntKind.wrap .u64 ((1:Int) * 2 ^ min (IntKind.wrap .u64 e1.Bit).toNat 64))) else J1 (cO.2.L, cO.2.At, m_1)) (fun (sg : Int × (List Int) × Int) => match sg with | (m_1, m_2, m_3) => some ((aS.mk (2:Int) (0:Int) (0:Int) e.Length ay.1 aV.1 (0:Int) bu.1 m_1 (⟨#[100, 97, 116, 97]⟩ : ByteArray)), (aQ.mk m_2 m_3))) ((0:Int), aK.2.L, aK.2.At)
end
end Go.Proofs.Ytdjeacigeegklaa
