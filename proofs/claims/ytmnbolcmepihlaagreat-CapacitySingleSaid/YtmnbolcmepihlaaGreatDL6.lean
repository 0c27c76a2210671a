/- Functions of the program, written gr. No condition but aX aL stand in each. -/
import Derived.Test.YtmnbolcmepihlaaGreatDLC
namespace Go.Proofs.YtmnbolcmepihlaaGreat
open Go
set_option maxRecDepth 100000
set_option linter.all false
noncomputable section
def iP(t:List Int):Option Bool:=
 bnd (jh t) λ(az:bL)=>bnd (lP az (8:Int)) λ(aH:af×bL)=>bz aH.1.Links 0 (λ(j1:Int) (e1:aU) (Z1:(List aU)→Option _) (m_1:(List aU))=>bnd (elO m_1 (j1:Int)) λ(e_1:aU)=>bnd (jU m_1 (j1:Int) (aU.mk e_1.A e_1.B e_1.ec e_1.eB (7:Int))) λ(l_1:List aU)=>Z1 l_1) (λ(m_1:(List aU))=>bnd (b8 aH.2 (aH.1.ay.length:Int)) λ(bA:Int×bL)=>bnd (elO aH.1.ay bA.1) λ(e_2:aW)=>bnd (pI bA.2 (af.mk aH.1.ay m_1) (4:Int)) λ(bU:(List Int)×bL)=>bnd (dN bU.2 (1:Int) (7:Int)) λ(dP:Int×bL)=>fT (af.mk aH.1.ay m_1) ([(bf.mk e_2.ID bU.1 dP.1)]:List bf) λ(cV:(List aQ)×Int)=>bnd (iJ (af.mk aH.1.ay m_1) e_2.ID bU.1) λ(cB:Int×Int)=>jn (λ(v_1:Bool)=>bif v_1 then some false else bnd (elO cV.1 (0:Int)) λ(e_4:aQ)=>bnd (jH (af.mk aH.1.ay m_1) e_4) λ(gd:Int×Int)=>bif ((decide (cB.2=0))&&((!decide (gd.2=0))||(!decide (gd.1=cB.1))))then some false else fT (af.mk aH.1.ay m_1) ([(bf.mk e_2.ID bU.1 (8:Int))]:List bf) λ(gI:(List aQ)×Int)=>bz bU.1 0 (λ(j2:Int) (e2:Int) (Z2:Bool→Option _) (mG:Bool)=>(bif mG then Z2 (decide (e2=e_2.ID))else Z2 false)) (λ(mG:Bool)=>(bif decide (gI.2=0)then(bif decide ((gI.1.length:Int)=(1:Int))then bnd (elO gI.1 (0:Int)) λ(e_5:aQ)=>bnd (nu mG e_2.ID) λ(s5:Int)=>bnd (iI e_5 (aQ.mk s5 [])) λ(mS:Bool)=>(bif mS then bnd (jZ) λ(rH:Bool)=>some rH else some false)else some false)else some false)) true) λJ1=>(bif !decide (cV.2=0)then J1 true else(bif !decide ((cV.1.length:Int)=(1:Int))then J1 true else bnd (elO cV.1 (0:Int)) λ(e_3:aQ)=>J1 (!((decide (cB.2=0))==(decide (e_3.bx=e_2.ID))))))) aH.1.Links
end
end Go.Proofs.YtmnbolcmepihlaaGreat
