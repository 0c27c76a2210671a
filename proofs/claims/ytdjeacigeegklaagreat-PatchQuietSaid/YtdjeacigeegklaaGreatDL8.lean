/- Functions of the program, written lu. No condition but bK bn stand in each. -/
import Derived.Test.YtdjeacigeegklaaGreatDA
namespace Go.Proofs.YtdjeacigeegklaaGreat
open Go
set_option maxRecDepth 100000
set_option linter.all false
noncomputable section
def nG(t:List Int):Option Bool:=
 bnd (mb t) λ(ai:bL)=>bnd (qh ai) λ(aD:aa×aC×dY×(List Int)×aH×Bool×bL)=>bif !aD.2.2.2.2.2.1 then bnd (j8) λ(aX:Bool)=>some aX else bnd (kX aD.2.1 aD.1 aD.2.2.2.2.1 aD.2.2.1.dS) λ(bu:cC×Int)=>bnd (iV aD.2.1 aD.1 (bF.mk [] []) aD.2.2.2.2.1 aD.2.2.1.dS) λ(bz:cC×Int)=>jn (λ(v_1:Bool)=>bif v_1 then some false else bnd (nF aD.2.2.2.2.2.2 aD.1) λ(bN:bF×bL)=>bnd (jK aD.2.2.1) λ(fq:(List Int))=>bD fq 0 (λ(j1:Int) (e1:Int) (Z1:Bool→Option _) (jt:Bool)=>(bif jt then Z1 true else bnd (eF bN.1.aj e1) λ(lI:Bool)=>Z1 lI)) (λ(jt:Bool)=>bD aD.2.2.1.Links 0 (λ(j2:Int) (e2:aV) (Z2:Bool→Option _) (iW:Bool)=>bD bN.1.Links 0 (λ(j3:Int) (e3:aV) (Z3:Bool→Option _) (gK:Bool)=>(bif gK then Z3 true else(bif decide (e3.bx=e2.bx)then(bif decide (e3.To=e2.To)then Z3 true else(bif decide (e3.bx=e2.To)then Z3 (decide (e3.To=e2.bx))else Z3 false))else(bif decide (e3.bx=e2.To)then Z3 (decide (e3.To=e2.bx))else Z3 false)))) (λ(gK:Bool)=>Z2 gK) iW) (λ(iW:Bool)=>bif iW then bnd (j8) λ(yW:Bool)=>some yW else bnd (iV aD.2.1 aD.1 bN.1 aD.2.2.2.2.1 aD.2.2.1.dS) λ(oU:cC×Int)=>(bif decide (oU.2=0)then bnd (jW oU.1 bu.1) λ(aa7:Bool)=>(bif aa7 then bnd (j8) λ(qt:Bool)=>some qt else some false)else some false)) jt) false) λJ1=>(bif !decide (bu.2=0)then J1 true else(bif !decide (bz.2=0)then J1 true else bnd (jW bz.1 bu.1) λ(cw:Bool)=>J1 (!cw)))
end
end Go.Proofs.YtdjeacigeegklaaGreat
