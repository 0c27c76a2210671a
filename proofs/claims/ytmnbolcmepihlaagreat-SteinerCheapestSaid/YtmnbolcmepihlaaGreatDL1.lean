/- Functions of the program, written jO. No condition but bk aJ stand in each. -/
import Derived.Test.YtmnbolcmepihlaaGreatDL
namespace Go.Proofs.YtmnbolcmepihlaaGreat
open Go
set_option maxRecDepth 100000
set_option linter.all false
noncomputable section
def gw(t:List Int):Option Bool:=
 bnd (ir t) λ(az:bx)=>bnd (jU az (9:Int)) λ(aD:aj×bx)=>bnd (bL aD.2 (aD.1.ak.length:Int)) λ(bt:Int×bx)=>bnd (elO aD.1.ak bt.1) λ(e_1:aK)=>bnd (nS bt.2 aD.1 (5:Int)) λ(bJ:(List Int)×bx)=>fS aD.1 e_1.ID bJ.1 λ(cc:bV×Int×Int)=>bnd (iO aD.1 e_1.ID bJ.1) λ(dh:Int×Int)=>bif ((!decide (cc.2.2=dh.2))||(!decide (cc.2.2=0)))then(bif decide (cc.2.2=dh.2)then bnd (iY) λ(cU:Bool)=>some cU else some false)else bnd (jW aD.1 cc.1) λ(iU:Int×Int)=>(bif decide (iU.2=0)then(bif decide (iU.1=cc.2.1)then(bif decide (cc.2.1=dh.1)then(bif decide (cc.1.bK=e_1.ID)then bnd (fA aD.1 cc.1 bJ.1) λ(mO:Int)=>(bif decide (mO=0)then bnd (iw aD.1 cc.1 bJ.1) λ(vj:Int)=>(bif decide (vj=0)then bnd (iY) λ(l5:Bool)=>some l5 else some false)else some false)else some false)else some false)else some false)else some false)
end
end Go.Proofs.YtmnbolcmepihlaaGreat
