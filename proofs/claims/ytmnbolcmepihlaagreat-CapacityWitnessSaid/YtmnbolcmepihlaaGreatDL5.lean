/- Functions of the program, written gm. No condition but aT aH stand in each. -/
import Derived.Test.YtmnbolcmepihlaaGreatDLC
namespace Go.Proofs.YtmnbolcmepihlaaGreat
open Go
set_option maxRecDepth 100000
set_option linter.all false
noncomputable section
def gr(t:List Int):Option Bool:=
 bnd (hU t) λ(ay:bp)=>bnd (jL ay (7:Int)) λ(aI:aq×bp)=>bnd (kr aI.2 aI.1 (8:Int)) λ(bk:(List aR)×bp)=>gE aI.1 bk.1 λ(ck:(List aX)×Int)=>bif ((!decide (ck.2=0))||(!decide ((ck.1.length:Int)=(bk.1.length:Int))))then some false else bZ bk.1 0 (λ(j1:Int) (e1:aR) (Z1:Unit→Option _) (sg:Unit)=>match sg with|()=>jn (λ(sg:Unit)=>match sg with|()=>Z1 ()) λJ1=>bnd (elO ck.1 (j1:Int)) λ(e_1:aX)=>bif !decide (e_1.bK=0)then J1 ()else bnd (mc ck.1 (0:Int) (j1:Int)) λ(l_1:List aX)=>bnd (fE aI.1 bk.1 l_1) λ(dA:(List bP)×Int)=>bnd (fq aI.1 dA.1 e1) λ(dg:(List Int)×Int)=>jn (λ(v_1:Bool)=>bif v_1 then some false else bZ e1.bq 0 (λ(j2:Int) (e2:Int) (Z2:Bool→Option _) (oV:Bool)=>(bif oV then bnd (fm dg.1 e2) λ(kY:Bool)=>Z2 kY else Z2 false)) (λ(oV:Bool)=>bif oV then some false else bZ dA.1 0 (λ(j3:Int) (e3:bP) (Z3:Unit→Option _) (sg:Unit)=>match sg with|()=>jn (λ(v_2:Bool)=>bif v_2 then some false else Z3 ()) λJ3=>bnd (fm dg.1 e3.aJ) λ(mm:Bool)=>(bif mm then bnd (fm dg.1 e3.To) λ(uR:Bool)=>(bif !uR then J3 (decide (e1.eD≤e3.Count))else J3 false)else J3 false)) (λ(sg:Unit)=>match sg with|()=>J1 ()) ()) true) λJ2=>(bif !decide (dA.2=0)then J2 true else(bif !decide (dg.2=0)then J2 true else bnd (fm dg.1 e1.bK) λ(dD:Bool)=>J2 (!dD)))) (λ(sg:Unit)=>match sg with|()=>bnd (ku) λ(lF:Bool)=>some lF) ()
end
end Go.Proofs.YtmnbolcmepihlaaGreat
