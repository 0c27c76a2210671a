/- Functions of the program, written gq. No condition but bH bq stand in each. -/
import Derived.Test.YtjdopimopgpagaaGreatDL
namespace Go.Proofs.YtjdopimopgpagaaGreat
open Go
set_option maxRecDepth 100000
set_option linter.all false
def o7(sa0:aU)(gn:Int):Option (aj×aU):=
 bnd (mZ sa0 gn (500000:Int)) λ(ah:aj×aU)=>whl (λ(Z1:(Int×(List aO))→Option _) (sg:Int×(List aO))=>match sg with|(i_1,m_1)=>bif decide (i_1<(m_1.length:Int))then bnd (elO m_1 i_1) λ(e_1:aO)=>bnd (gF m_1 i_1 (aO.mk e_1.af (if e_1.Seq>(1:Int)then e_1.Seq else(1:Int)) e_1.aY e_1.Claims e_1.Database)) λ(l_1:List aO)=>bnd (elO l_1 i_1) λ(e_2:aO)=>bnd (pz (aj.mk ah.1.Links l_1 ah.1.aq) e_2.af) λ(aD:ai×Bool)=>bnd (l8 e_2.Database aD.1) λ(aP:aF)=>bnd (gF l_1 i_1 (aO.mk e_2.af e_2.Seq e_2.aY e_2.Claims aP)) λ(l_2:List aO)=>Z1 (w64 (i_1+1),l_2)else some ((aj.mk ah.1.Links m_1 ah.1.aq),ah.2)) ((0:Int),ah.1.aA)
def lW(f:aj)(n:Int):Option aj:=
 chk (decide (n≤9223372036854775807))<|gO (n-0).toNat (0:Int) (λ(j1:Int) (Z1:((List aV)×(List aO)×(List aR))→Option _) (sg:(List aV)×(List aO)×(List aR))=>match sg with|(m_1,m_2,m_3)=>bnd (gY (aj.mk m_1 m_2 m_3)) λ(ah:aj×Int)=>Z1 (ah.1.Links,ah.1.aA,ah.1.aq)) (λ(j1:Int) (sg:(List aV)×(List aO)×(List aR))=>match sg with|(m_1,m_2,m_3)=>some (aj.mk m_1 m_2 m_3)) (f.Links,f.aA,f.aq)
end Go.Proofs.YtjdopimopgpagaaGreat
