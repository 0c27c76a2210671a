/- iV of aR program, written iz. bM bN cu cg bz cv in ck. -/
import Derived.Test.YtmnbolcmepihlaaGreatDLC
namespace Go.Proofs.YtmnbolcmepihlaaGreat
open Go
set_option maxRecDepth 100000
set_option linter.all false
noncomputable section
def EE(t:List Int):Option Bool:=
 bf (Ct t) λ(a8:dX)=>bf (Cw a8 (7:Int)) λ(bt:b0×dX)=>bf (CE bt.2 bt.1 (8:Int)) λ(c7:(List dQ)×dX)=>ze bt.1 c7.1 λ(fl:(List c0)×Int)=>bif ((!decide (fl.2=0))||(!decide ((fl.1.length:Int)=(c7.1.length:Int))))then some false else ez c7.1 0 (λ(bp:Int) (aA:dQ) (dh:(List Int)→Option _) (wh:(List Int))=>bf (j7 wh ([aA.hM]:List Int)) λ(eU:List Int)=>dh eU) (λ(wh:(List Int))=>bf (CC fl.1 wh) λ(fE:(List ep)×Int)=>bf (vp bt.1 c7.1 fl.1) λ(et:(List ep)×Int)=>bif ((!decide (fE.2=0))||((!decide (et.2=0))||(!decide ((et.1.length:Int)=bK ((2:Int)*(bt.1.Links.length:Int))))))then some false else ez et.1 0 (λ(dd:Int) (e2:ep) (jM:Unit→Option _) (av:Unit)=>match av with|()=>ez fE.1 0 (λ(gJ:Int) (b6:ep) (o0:Int→Option _) (oG:Int)=>jn (λ(Ad:Int)=>o0 Ad) λfD=>bif ((decide (b6.bg=e2.bg))&&(decide (b6.aQ=e2.aQ)))then fD b6.Count else fD oG) (λ(oG:Int)=>ez bt.1.Links 0 (λ(mH:Int) (cQ:c8) (vi:Int→Option _) (rq:Int)=>jn (λ(Av:Int)=>vi Av) λjB=>bif (bif decide (cQ.A=e2.bg)then((decide (cQ.B=e2.aQ))||((decide (cQ.B=e2.bg))&&(decide (cQ.A=e2.aQ))))else((decide (cQ.B=e2.bg))&&(decide (cQ.A=e2.aQ))))then jB cQ.kY else jB rq) (λ(rq:Int)=>bif ((!decide (bK (oG+e2.Count)=rq))||(decide (e2.Count<0)))then some false else jM ()) (-1:Int)) (0:Int)) (λ(av:Unit)=>match av with|()=>bf (CF) λ(gW:Bool)=>some gW) ()) []
end
end Go.Proofs.YtmnbolcmepihlaaGreat
