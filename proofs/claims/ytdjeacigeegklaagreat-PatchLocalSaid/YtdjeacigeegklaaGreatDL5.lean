/- Functions of the program, written iY. No condition but bB aX stand in each. -/
import Derived.Test.YtdjeacigeegklaaGreatT
import Derived.Test.YtdjeacigeegklaaGreatDA
namespace Go.Proofs.YtdjeacigeegklaaGreat
open Go
set_option maxRecDepth 100000
set_option linter.all false
noncomputable section
def kU(t:List Int):Option Bool:=
 bnd (jC t) λ(ai:aZ)=>bnd (lU ai (6:Int)) λ(aL:aa×aZ)=>bnd (mI aL.2 aL.1) λ(aV:aK×aZ)=>bJ aV.1.List 0 (λ(j1:Int) (e1:aj) (Z1:(Int×(List Int)×Int)→Option _) (sg:Int×(List Int)×Int)=>match sg with|(m_1,m_2,m_3)=>jn (λ(sg:(List Int)×Int×Int)=>match sg with|(m_4,m_5,m_6)=>Z1 (m_6,m_4,m_5)) λJ1=>bnd (bG (aZ.mk m_2 m_3) (3:Int)) λ(bz:Int×aZ)=>bif decide (0<bz.1)then chk (decide (0≤IntKind.wrap .u64 e1.Bit))<|J1 (bz.2.L,bz.2.At,aS .or .u64 m_1 (IntKind.wrap .u64 ((1:Int)*2 ^ min (IntKind.wrap .u64 e1.Bit).toNat 64)))else J1 (bz.2.L,bz.2.At,m_1)) (λ(sg:Int×(List Int)×Int)=>match sg with|(m_1,m_2,m_3)=>bnd (bG (aZ.mk m_2 m_3) (aL.1.aq.length:Int)) λ(cq:Int×aZ)=>bnd (elO aL.1.aq cq.1) λ(e_1:aM)=>bnd (pT cq.2 aL.1 (2:Int)) λ(cH:(List Int)×aZ)=>bnd (jr aV.1 e_1.ID (aT.mk (2:Int) (0:Int) (0:Int) aV.1.Length (9:Int) (0:Int) (0:Int) (0:Int) m_1 (⟨#[]⟩:ByteArray))) λ(bZ:bQ×Int)=>bnd (jt aV.1 aL.1 e_1.ID (aT.mk (2:Int) (0:Int) (0:Int) aV.1.Length (9:Int) (0:Int) (0:Int) (0:Int) m_1 (⟨#[]⟩:ByteArray)) cH.1) λ(dw:bQ×Int)=>bif ((!decide (bZ.2=0))||((!decide (dw.2=0))||(!decide (bZ.1.Local=dw.1.Local))))then some false else bJ bZ.1.bu 0 (λ(j2:Int) (e2:bp) (Z2:Int→Option _) (k_1:Int)=>jn (λ(k_2:Int)=>Z2 k_2) λJ2=>bnd (eT cH.1 e2.To) λ(nS:Bool)=>bif nS then J2 k_1 else whl (λ(Z3:Int→Option _) (k_3:Int)=>jn (λ(v_1:Bool)=>bif v_1 then Z3 (w64 (k_3+1))else bif decide ((dw.1.bu.length:Int)≤k_3)then some false else J2 (w64 (k_3+1))) λJ3=>(bif decide (k_3<(dw.1.bu.length:Int))then bnd (lq dw.1.bu k_3 (w64 (k_3+1))) λ(l_1:List bp)=>bnd (fM (bQ.mk (0:Int) (0:Int) ([e2]:List bp)) (bQ.mk (0:Int) (0:Int) l_1)) λ(ud:Bool)=>J3 (!ud)else J3 false)) k_1) (λ(k_1:Int)=>bnd (kK) λ(nF:Bool)=>some nF) (0:Int)) ((0:Int),aV.2.L,aV.2.At)
end
end Go.Proofs.YtdjeacigeegklaaGreat
