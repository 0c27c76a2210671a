/- gw iD of h7 of aR program. bM bN cu cg bz cv in ck. -/
import Derived.Test.YtmnbolcmepihlaaGreatVN
namespace Go.Proofs.YtmnbolcmepihlaaGreat
open Go Go.Proofs.Tryz
set_option maxRecDepth 100000
set_option linter.all false
theorem alc{t:dX}{p:b0}{n:Int}{r:(List dQ)×dX}(hm:CE t p n=some r):gi prog 22 [(900000103,.cells 103 (hw t))] [.ptr 900000103 0,.agg (dN p),ag n] (λa az=>a=bm hI r.1∧az=[(900000103,.cells 103 (hw r.2))]):=by
 refine eu func22 rfl rfl ?_;unfold CE at hm;refine bn [(0,.al 22004)] [(0,.ptr 900000103 0),(2,ag n),(4,.ptr 22004 0)] [(900000103,.cells 103 (hw t)),(22004,.cells 28 (dN p))]<|br [] [] [(7,.cV)]<|A.seq ?_
 obtain⟨a8,h1,hm⟩:=bI hm;refine eV [(3,gN [] (qK h1) rD)] [2] [(8,ag a8.1)] [900000103] [(900000103,.cells 103 (hw a8.2))]<|A.block ?_
 obtain⟨lJ,hG,lU,hm⟩:=qY hm;refine A.q7 (F:=lJ) hm (λav=>match av with|(fI,cr,cc,dZ)=>[(0,.ptr 900000103 0),(4,.ptr 22004 0),(7,.own 600022007),(8,ag cr)]) (λav=>match av with|(fI,cr,cc,dZ)=>[(900000103,.cells 103 [bm bq cc,ag dZ]),(22004,.cells 28 (dN p)),(600022007,.slice 52 3 (aD hI fI) 0 false)]) ?_ ?_
 ·exact b8.go [.ad 7 600022007 52 3] [] (by kernel_rfl)
 rintro dh ⟨fI,cr,cc,dZ⟩ hm;rw[lU]at hm;refine A.seq<|br [] [] [(14,.bool (decide (0<cr)))] ?_
 rcases cZ hm with⟨bk,hm⟩|⟨bk,hm⟩
 ·refine cM bk<|A.skip<|A.seq<|A.block ?_
  obtain⟨bt,D,hm⟩:=bI hm;obtain⟨ej,ak,hm⟩:=bI hm;obtain⟨c7,bc,hm⟩:=bI hm;obtain⟨fl,bX,hm⟩:=bI hm;obtain⟨eU,dV,hm⟩:=bI hm;exact lg [(6,aZ (ew fK p.dU)),(7,gN [] (qK D) rD),(8,eg (ix fK ak)),(13,gN [] (alr bc) afd),(16,gN [] (BG bX) Bf),(19,qP 22536 (ap hI (bytes:=40) (by decide) dV))] [7,14] [(7,.own 22536)] [900000103,600022007] [(900000103,.cells 103 (hw fl.2)),(22536,.slice 52 3 (aD hI eU) 0 false)]<|fq [] [8] [(8,ag (bK (cr-1)))]<|Exists.intro (eU,bK (cr-1),fl.2.L,fl.2.At) (And.intro hm (b8.go [.kV 22536 600022007] [] (by kernel_rfl)))
 refine cL bk<|A.exit<|eV [] [0,4,7,8,14] [(6,.own 600022007)] [22004] []<|A.ret ?_
 obtain rfl:=nP hm;exact A.fin cm [.cU [600022007]] rfl (by kernel_rfl)
end Go.Proofs.YtmnbolcmepihlaaGreat
