/- Functions of the program, written fU. No condition but bM bw stand in each. -/
import Derived.Test.YtjdopimopgpagaaGreatDL
namespace Go.Proofs.YtjdopimopgpagaaGreat
open Go
set_option maxRecDepth 100000
set_option linter.all false
def jv(t:List Int)(raw:List aK):Option Bool:=
 bnd (vp t) λ(af:aS)=>bnd (mJ af (4:Int) (1000000:Int)) λ(aD:aB×aS)=>bnd (oJ aD.2 aD.1 (8:Int)) λ(aP:aB×aS)=>bnd (dM aP.1) λ(bt:aA)=>bnd (dM aP.1) λ(bF:aA)=>bnd (kU aP.2 bF) λ(cg:gR×aS)=>bnd (mz bt cg.1) λ(cw:aA)=>bnd (fH cg.2 (4:Int) (4:Int)) λ(cr:aA×aS)=>whl (λ(Z1:Int→Option _) (i_1:Int)=>bif ((decide (i_1<(([cw.Links,cr.1.Links,raw]:List (List aK)).length:Int)))&&(decide ((raw.length:Int)≤(100:Int))))then bnd (elO ([cw.Links,cr.1.Links,raw]:List (List aK)) i_1) λ(e_1:List aK)=>bnd (gW aP.1 e_1) λ(dJ:aB×Int)=>bnd (jL aP.1 e_1) λ(bK:aB×Int)=>jn (λ(v_1:Bool)=>bif v_1 then some false else Z1 (w64 (i_1+1))) λJ1=>bnd (pQ dJ.1 bK.1) λ(ei:Bool)=>(bif !ei then J1 true else J1 (!decide (dJ.2=bK.2)))else bnd (qY) λ(cn:Bool)=>some cn) (0:Int)
end Go.Proofs.YtjdopimopgpagaaGreat
