/- The walks of cE of the program. No condition but bf aM stand in each. -/
import Derived.Test.YtmnbolcmepihlaaGreatVN
namespace Go.Proofs.YtmnbolcmepihlaaGreat
open Go Go.Proofs.Tryz
set_option maxRecDepth 100000
set_option linter.all false
theorem y5{t:bL}{p:ai}{n:Int}{r:(List aN)×bL}(hm:mK t p n=some r):b9 prog 22 [(900000103,.cells 103 (k5 t))] [.ptr 900000103 0,.agg (k2 p),i6 n] (λa σ'=>a=lf bH r.1∧σ'=[(900000103,.cells 103 (k5 r.2))]):=by
 refine aZ func22 rfl rfl ?_;unfold mK at hm;refine qS [(0,.al 22004)] [(0,.ptr 900000103 0),(2,i6 n),(4,.ptr 22004 0)] [(900000103,.cells 103 (k5 t)),(22004,.cells 28 (k2 p))]<|qDs [] [] [(7,.bI)]<|A.seq ?_
 obtain⟨aq,h1,hm⟩:=aa hm;refine qD [(3,hdc [] (cD h1) rA)] [2] [(8,i6 aq.1)] [900000103] [(900000103,.cells 103 (k5 aq.2))]<|A.block ?_
 obtain⟨F1,n1,hF1,hm⟩:=fW hm;refine A.lpW (F:=F1) hm (λ(bK,i_1,m_1,m_2)=>[(0,.ptr 900000103 0),(4,.ptr 22004 0),(7,.own 600022007),(8,i6 i_1)]) (λ(bK,i_1,m_1,m_2)=>[(900000103,.cells 103 [lf ak m_1,i6 m_2]),(22004,.cells 28 (k2 p)),(600022007,.slice 52 3 (ml bH bK) 0 false)]) ?_ ?_
 ·exact aU.go [.ad 7 600022007 52 3] [] (by kernel_rfl)
 rintro Z1 ⟨bK,i_1,m_1,m_2⟩ hm;rw[hF1]at hm;refine A.seq<|qDs [] [] [(14,.bool (decide (0<i_1)))] ?_
 rcases aA hm with⟨c1,hm⟩|⟨c1,hm⟩
 ·refine qT c1<|A.skip<|A.seq<|A.block ?_
  obtain⟨aF,h2,hm⟩:=aa hm;obtain⟨e_1,h3,hm⟩:=aa hm;obtain⟨bx,h4,hm⟩:=aa hm;obtain⟨bV,h5,hm⟩:=aa hm;obtain⟨l_1,h6,hm⟩:=aa hm;exact qG [(6,hto (lnE bt p.aC)),(7,hdc [] (cD h2) rA),(8,hix (ix bt h3)),(13,hdc [] (abT h4) ck15),(16,hdc [] (fG h5) acS),(19,hap 22536 (ap bH (bytes:=40) (by decide) h6))] [7,14] [(7,.own 22536)] [900000103,600022007] [(900000103,.cells 103 (k5 bV.2)),(22536,.slice 52 3 (ml bH l_1) 0 false)]<|qGs [] [8] [(8,i6 (w64 (i_1-1)))]<|Exists.intro (l_1,w64 (i_1-1),bV.2.L,bV.2.At) (And.intro hm (aU.go [.sw 22536 600022007] [] (by kernel_rfl)))
 refine qF c1<|A.exit<|qD [] [0,4,7,8,14] [(6,.own 600022007)] [22004] []<|A.ret ?_
 obtain rfl:=some_inj hm;exact A.fin W0 [.fz [600022007]] rfl (by kernel_rfl)
end Go.Proofs.YtmnbolcmepihlaaGreat
