/- Functions of the program, written jO. No condition but bk aJ stand in each. -/
import Derived.Test.YtmnbolcmepihlaaGreatDA
namespace Go.Proofs.YtmnbolcmepihlaaGreat
open Go
set_option maxRecDepth 100000
set_option linter.all false
noncomputable section
def lS: Option aj:=
 gP ((5:Int)-(1:Int)).toNat (1:Int) (λ(j1:Int) (Z1:(List aK)→Option _) (m_1:(List aK))=>bnd (ij m_1 ([(aK.mk (j1:Int) true)]:List aK)) λ(l_1:List aK)=>Z1 l_1) (λ(j1:Int) (m_1:(List aK))=>bF ([(aZ.mk (1:Int) (2:Int) (2:Int)),(aZ.mk (1:Int) (3:Int) (3:Int)),(aZ.mk (1:Int) (4:Int) (3:Int)),(aZ.mk (2:Int) (3:Int) (2:Int)),(aZ.mk (2:Int) (4:Int) (2:Int))]:List aZ) 0 (λ(j2:Int) (e2:aZ) (Z2:(List aU)→Option _) (m_2:(List aU))=>bnd (ij m_2 ([(aU.mk e2.E0 e2.E1 e2.E2 e2.E2 (0:Int))]:List aU)) λ(l_2:List aU)=>Z2 l_2) (λ(m_2:(List aU))=>some (aj.mk m_1 m_2)) []) []
def iY: Option Bool:=
 bnd (lS) λ(az:aj)=>fS az (1:Int) ([(3:Int),(4:Int)]:List Int) λ(aD:bV×Int×Int)=>bnd (lS) λ(bt:aj)=>bnd (iC bt (1:Int) ([(3:Int),(4:Int)]:List Int) ([(jR.mk ([(2:Int),(3:Int),(4:Int)]:List Int) (1:Int)),(jR.mk ([(3:Int)]:List Int) (2:Int)),(jR.mk ([(4:Int)]:List Int) (2:Int))]:List jR)) λ(bJ:Int×Int)=>some ((decide (aD.2.2=0))&&((decide (bJ.2=0))&&((decide (aD.2.1=6))&&((decide (bJ.1=5))&&(decide (1<(aD.1.Links.length:Int)))))))
end
end Go.Proofs.YtmnbolcmepihlaaGreat
