/- Functions of the program, written gn. No condition but bK bu stand in each. -/
import Derived.Test.YtjdopimopgpagaaGreatDL
namespace Go.Proofs.YtjdopimopgpagaaGreat
open Go
set_option maxRecDepth 100000
set_option linter.all false
def oG(sa0:aX)(ga:Int):Option (aA×aX):=
 bnd (mH sa0 ga (500000:Int)) λ(ah:aA×aX)=>whl (λ(Z1:(Int×(List aT))→Option _) (sg:Int×(List aT))=>match sg with|(i_1,m_1)=>bif decide (i_1<(m_1.length:Int))then bnd (elO m_1 i_1) λ(e_1:aT)=>bnd (iT m_1 i_1 (aT.mk e_1.af (if e_1.Seq>(1:Int)then e_1.Seq else(1:Int)) e_1.aW e_1.Claims e_1.Database)) λ(l_1:List aT)=>bnd (elO l_1 i_1) λ(e_2:aT)=>bnd (oK (aA.mk ah.1.Links l_1 ah.1.aF) e_2.af) λ(aD:ai×Bool)=>bnd (lQ e_2.Database aD.1) λ(aN:aH)=>bnd (iT l_1 i_1 (aT.mk e_2.af e_2.Seq e_2.aW e_2.Claims aN)) λ(l_2:List aT)=>Z1 (w64 (i_1+1),l_2)else some ((aA.mk ah.1.Links m_1 ah.1.aF),ah.2)) ((0:Int),ah.1.aB)
def lG(f:aA)(n:Int):Option aA:=
 chk (decide (n≤9223372036854775807))<|gz (n-0).toNat (0:Int) (λ(j1:Int) (Z1:((List aS)×(List aT)×(List bB))→Option _) (sg:(List aS)×(List aT)×(List bB))=>match sg with|(m_1,m_2,m_3)=>bnd (eX (aA.mk m_1 m_2 m_3)) λ(ah:aA×Int)=>Z1 (ah.1.Links,ah.1.aB,ah.1.aF)) (λ(j1:Int) (sg:(List aS)×(List aT)×(List bB))=>match sg with|(m_1,m_2,m_3)=>some (aA.mk m_1 m_2 m_3)) (f.Links,f.aB,f.aF)
end Go.Proofs.YtjdopimopgpagaaGreat
