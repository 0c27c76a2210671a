/- Functions of the program, written ku. No condition but bU bx stand in each. -/
import Derived.Test.YtdjeacigeegklaaGreatT
import Derived.Test.YtdjeacigeegklaaGreatDA
namespace Go.Proofs.YtdjeacigeegklaaGreat
open Go
set_option maxRecDepth 100000
set_option linter.all false
noncomputable section
def qx: Option af:=
 some (af.mk ([(aY.mk (1:Int) true),(aY.mk (2:Int) true),(aY.mk (3:Int) true)]:List aY) ([(bt.mk (1:Int) (2:Int) (1:Int) (1:Int) (0:Int)),(bt.mk (2:Int) (3:Int) (1:Int) (1:Int) (0:Int))]:List bt))
def oA: Option Bool:=
 bnd (qx) λ(ai:af)=>bnd (nC ai (8:Int)) λ(aI:aG×Int)=>bnd (qx) λ(bn:af)=>bnd (fP aI.1 bn (aD.mk (2:Int) (0:Int) (0:Int) (8:Int) (9:Int) (0:Int) (0:Int) (0:Int) (50:Int) (⟨#[]⟩:ByteArray)) (1:Int)) λ(bf:dy×Int)=>(bif decide (bf.2=0)then(bif decide ((bf.1.dD.length:Int)=(1:Int))then bnd (elO bf.1.dD (0:Int)) λ(e_1:cw)=>(bif decide (e_1.aN=3)then(bif decide ((bf.1.dF.length:Int)=(2:Int))then bnd (elO bf.1.dF (0:Int)) λ(e_2:aU)=>(bif decide (e_2.Bits=48)then bnd (elO bf.1.dF (1:Int)) λ(e_3:aU)=>some (decide (e_3.Bits=32))else some false)else some false)else some false)else some false)else some false)
def nN(sa0:aR)(e:aG):Option (aD×aR):=
 bnd (cH sa0 ([(63:Int),(63:Int),(30:Int),(3:Int),(1:Int),(0:Int)]:List Int)) λ(ai:Int×aR)=>bnd (bu ai.2 (1024:Int)) λ(aI:Int×aR)=>bnd (bu aI.2 (8:Int)) λ(bn:Int×aR)=>bnd (cH bn.2 ([(2:Int),(3:Int),(6:Int)]:List Int)) λ(bf:Int×aR)=>bF e.List 0 (λ(j1:Int) (e1:ak) (Z1:(Int×(List Int)×Int)→Option _) (sg:Int×(List Int)×Int)=>match sg with|(m_1,m_2,m_3)=>jn (λ(sg:(List Int)×Int×Int)=>match sg with|(m_4,m_5,m_6)=>Z1 (m_6,m_4,m_5)) λJ1=>bnd (bu (aR.mk m_2 m_3) bf.1) λ(bO:Int×aR)=>bif decide (0<bO.1)then chk (decide (0≤IntKind.wrap .u64 e1.Bit))<|J1 (bO.2.L,bO.2.At,bB .or .u64 m_1 (IntKind.wrap .u64 ((1:Int)*2 ^ min (IntKind.wrap .u64 e1.Bit).toNat 64)))else J1 (bO.2.L,bO.2.At,m_1)) (λ(sg:Int×(List Int)×Int)=>match sg with|(m_1,m_2,m_3)=>some ((aD.mk (2:Int) (0:Int) (0:Int) e.Length ai.1 aI.1 (0:Int) bn.1 m_1 (⟨#[100,97,116,97]⟩:ByteArray)),(aR.mk m_2 m_3))) ((0:Int),bf.2.L,bf.2.At)
def pE(sa0:aR)(p:aD):Option (aD×aR):=
 jn (λ(sg:(List Int)×Int×Int×Int×Int×Int×Int)=>match sg with|(m_1,m_2,m_3,m_4,m_5,m_6,m_7)=>some ((aD.mk m_3 p.bL m_4 m_5 m_6 p.cn p.cq p.dg m_7 p.cm),(aR.mk m_1 m_2))) λJ1=>bnd (bu sa0 (5:Int)) λ(ai:Int×aR)=>bif decide (ai.1=0)then bnd (eF ai.2 (0:Int) (4:Int)) λ(aI:Int×aR)=>J1 (aI.2.L,aI.2.At,aI.1,p.Set,p.Length,p.TTL,p.Bits)else bif decide (ai.1=1)then bnd (cH ai.2 ([(0:Int),(8:Int),(16:Int),(32:Int),(64:Int)]:List Int)) λ(bn:Int×aR)=>J1 (bn.2.L,bn.2.At,p.Mode,p.Set,bn.1,p.TTL,p.Bits)else bif decide (ai.1=2)then bnd (cH ai.2 ([(-1:Int),(0:Int),(64:Int)]:List Int)) λ(bf:Int×aR)=>J1 (bf.2.L,bf.2.At,p.Mode,p.Set,p.Length,bf.1,p.Bits)else bif decide (ai.1=3)then bnd (bu ai.2 (64:Int)) λ(bO:Int×aR)=>chk (decide (0≤IntKind.wrap .u64 bO.1))<|J1 (bO.2.L,bO.2.At,p.Mode,p.Set,p.Length,p.TTL,bB .xor .u64 p.Bits (IntKind.wrap .u64 ((1:Int)*2 ^ min (IntKind.wrap .u64 bO.1).toNat 64)))else bnd (cH ai.2 ([(-1:Int),(31:Int),(32:Int)]:List Int)) λ(br:Int×aR)=>J1 (br.2.L,br.2.At,p.Mode,br.1,p.Length,p.TTL,p.Bits)
def oB(p:af)(a:Int)(b:Int)(aK:Int):Option af:=
 bF p.aq 0 (λ(j1:Int) (e1:aY) (Z1:(List aY)→Option _) (m_1:(List aY))=>jn (λ(m_2:(List aY))=>Z1 m_2) λJ1=>bif !decide (e1.ID=aK)then bnd (dK m_1 ([e1]:List aY)) λ(l_1:List aY)=>J1 l_1 else J1 m_1) (λ(m_1:(List aY))=>bF p.Links 0 (λ(j2:Int) (e2:bt) (Z2:(List bt)→Option _) (m_3:(List bt))=>jn (λ(m_4:(List bt))=>Z2 m_4) λJ2=>bif ((!decide (e2.A=aK))&&((!decide (e2.B=aK))&&(bif decide (e2.A=a)then((!(decide (e2.B=b)))&&(bif decide (e2.A=b)then !(decide (e2.B=a))else true))else(bif decide (e2.A=b)then !(decide (e2.B=a))else true))))then bnd (dK m_3 ([e2]:List bt)) λ(l_2:List bt)=>J2 l_2 else J2 m_3) (λ(m_3:(List bt))=>some (af.mk m_1 m_3)) []) []
end
end Go.Proofs.YtdjeacigeegklaaGreat
