/- Functions of the program, written gn. No condition but bK bu stand in each. -/
import Derived.Test.YtjdopimopgpagaaGreatDLS
namespace Go.Proofs.YtjdopimopgpagaaGreat
open Go
set_option maxRecDepth 100000
set_option linter.all false
def jo(t:List Int):Option Bool:=
 bnd (vt t) λ(ah:aX)=>bnd (oG ah (4:Int)) λ(aD:aA×aX)=>bnd (jd (aD.1.aB.length:Int)) λ(aN:Int)=>bnd (lG aD.1 aN) λ(bt:aA)=>bnd (eX bt) λ(bL:aA×Int)=>jn (λ(v_1:Bool)=>bif v_1 then some false else bnd (ef bt) λ(di:az)=>bJ bt.aB 0 (λ(j1:Int) (e1:aT) (Z1:Unit→Option _) (sg:Unit)=>match sg with|()=>bnd (lM e1.Database e1.af) λ(dU:az)=>bnd (jF di e1.af) λ(bP:(List Int))=>bif !decide ((dU.aG.length:Int)=(bP.length:Int))then some false else bJ bt.aB 0 (λ(j2:Int) (e2:aT) (Z2:(List Int)→Option _) (cg:(List Int))=>jn (λ(eO:(List Int))=>Z2 eO) λJ2=>bnd (ja di e1.af e2.af) λ(dW:Bool)=>bif !dW then bnd (cV cg ([e2.af]:List Int)) λ(l_1:List Int)=>J2 l_1 else J2 cg) (λ(cg:(List Int))=>bnd (kH di (fk.mk [] cg)) λ(ck:az)=>bnd (nD dU ck) λ(gQ:Bool)=>bif !gQ then some false else Z1 ()) []) (λ(sg:Unit)=>match sg with|()=>bnd (oF) λ(jT:Bool)=>some jT) ()) λJ1=>bnd (eS bt) λ(cc:Bool)=>(bif !cc then J1 true else(bif !decide (bL.2=0)then J1 true else bnd (eS bL.1) λ(de:Bool)=>J1 (!de)))
end Go.Proofs.YtjdopimopgpagaaGreat
