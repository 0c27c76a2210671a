/- Functions of the program, written iL. No condition but aX aH stand in each. -/
import Derived.Test.YtmnbolcmepihlaaDA
namespace Go.Proofs.Ytmnbolcmepihlaa
open Go
set_option maxRecDepth 100000
set_option linter.all false
noncomputable section
def jd: Option az:=
 gY ((5:Int)-(1:Int)).toNat (1:Int) (λ(j1:Int) (Z1:(List aK)→Option _) (m_1:(List aK))=>bnd (iy m_1 ([(aK.mk (j1:Int) true)]:List aK)) λ(l_1:List aK)=>Z1 l_1) (λ(j1:Int) (m_1:(List aK))=>cc ([(aO.mk (1:Int) (2:Int) (2:Int)),(aO.mk (1:Int) (3:Int) (3:Int)),(aO.mk (1:Int) (4:Int) (3:Int)),(aO.mk (2:Int) (3:Int) (2:Int)),(aO.mk (2:Int) (4:Int) (2:Int))]:List aO) 0 (λ(j2:Int) (e2:aO) (Z2:(List bh)→Option _) (m_2:(List bh))=>bnd (iy m_2 ([(bh.mk e2.E0 e2.E1 e2.E2 e2.E2 (0:Int))]:List bh)) λ(l_2:List bh)=>Z2 l_2) (λ(m_2:(List bh))=>some (az.mk m_1 m_2)) []) []
def gn: Option Bool:=
 bnd (jd) λ(aq:az)=>eN aq (1:Int) ([(3:Int),(4:Int)]:List Int) λ(aL:ef×Int×Int)=>bnd (jd) λ(bM:az)=>bnd (fT bM (1:Int) ([(3:Int),(4:Int)]:List Int) ([(hU.mk ([(2:Int),(3:Int),(4:Int)]:List Int) (1:Int)),(hU.mk ([(3:Int)]:List Int) (2:Int)),(hU.mk ([(4:Int)]:List Int) (2:Int))]:List hU)) λ(bF:Int×Int)=>some ((decide (aL.2.2=0))&&((decide (bF.2=0))&&((decide (aL.2.1=6))&&((decide (bF.1=5))&&(decide (1<(aL.1.Links.length:Int)))))))
end
end Go.Proofs.Ytmnbolcmepihlaa
