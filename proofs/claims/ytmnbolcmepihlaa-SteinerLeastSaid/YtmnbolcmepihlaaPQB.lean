/- Plain: chapter 32's example. No condition. -/
import Derived.Test.YtmnbolcmepihlaaPQA
import Derived.Test.YtmnbolcmepihlaaDL
namespace Go.Proofs.Ytmnbolcmepihlaa
set_option linter.all false
open Go
set_option maxRecDepth 100000
def s6:az:=az.mk [aK.mk 1 true,aK.mk 2 true,aK.mk 3 true,aK.mk 4 true] [bh.mk 1 2 2 2 0,bh.mk 1 3 3 3 0,bh.mk 1 4 3 3 0,bh.mk 2 3 2 2 0,bh.mk 2 4 2 2 0]
theorem ac2:jd=some s6:=by kernel_rfl
theorem ac3:Vt s6:=s4.1 (by kernel_rfl)
theorem x7:fT s6 1 [3,4] [hU.mk [2,3,4] 1,hU.mk [3] 2,hU.mk [4] 2]=some (5,0):=by kernel_rfl
def l8:List af:=[⟨⟨1,2⟩,2⟩,⟨⟨2,1⟩,2⟩,⟨⟨1,3⟩,3⟩,⟨⟨3,1⟩,3⟩,⟨⟨1,4⟩,3⟩,⟨⟨4,1⟩,3⟩,⟨⟨2,3⟩,2⟩,⟨⟨3,2⟩,2⟩,⟨⟨2,4⟩,2⟩,⟨⟨4,2⟩,2⟩]
theorem uO:gO s6=l8:=rfl
theorem agC:∀a∈l8,a.Hop.To=2→2≤a.bI:=by decide
theorem agD:∀a∈l8,a.Hop.To=3→(a.Hop.bf=1∧a.bI=3)∨(a.Hop.bf=2∧a.bI=2):=by decide
theorem zd:∀a∈l8,a.Hop.To=4→(a.Hop.bf=1∧a.bI=3)∨(a.Hop.bf=2∧a.bI=2):=by decide
variable {H:List af}
theorem wo(h1:af.mk ⟨1,3⟩ 3∈H)(h2:af.mk ⟨1,4⟩ 3∈H):∀t,t∈([3,4]:List Int)→Con aW H 1 t:=by
 intro t ht
 simp only[List.mem_cons,List.not_mem_nil,or_false]at ht
 rcases ht with rfl|rfl
 ·exact Con.step (N:=aW) (af.mk ⟨1,3⟩ 3) h1 (.refl _)
 ·exact Con.step (N:=aW) (af.mk ⟨1,4⟩ 3) h2 (.refl _)
variable {L:List af}{a b:af}
theorem wq(hp:∀a∈L,0<a.bI)(hs:∀a∈H,a∈L)(ha:a∈H)(hb:b∈H)(hab:b≠a):a.bI+b.bI≤bP aW H∧2≤H.length:=by
 have h1:=jm (N:=aW) ha
 have hb2:b∈H.erase a:=(List.mem_erase_of_ne hab).2 hb
 have h2:=jm (N:=aW) hb2
 have h3:0≤bP aW ((H.erase a).erase b):=lg λc hc=>by
  have:=hp c (hs c (List.mem_of_mem_erase (List.mem_of_mem_erase hc)))
  show 0≤c.bI
  omega
 have h4:=List.length_erase_of_mem ha
 have h5:=List.length_pos_of_mem hb2
 refine⟨?_,by omega⟩
 have e1:aW.cost a=a.bI:=rfl
 have e2:aW.cost b=b.bI:=rfl
 omega
theorem x8(hp:∀a∈L,0<a.bI)(hs:∀a∈H,a∈L){c:af}(ha:a∈H)(hb:b∈H)(hc:c∈H)(hab:b≠a)(hac:c≠a)(hbc:c≠b):a.bI+b.bI+c.bI≤bP aW H:=by
 have h1:=jm (N:=aW) ha
 have h2:=(wq (L:=L) (H:=H.erase a) hp (λx hx=>hs x (List.mem_of_mem_erase hx)) ((List.mem_erase_of_ne hab).2 hb) ((List.mem_erase_of_ne hac).2 hc) hbc).1
 have e1:aW.cost a=a.bI:=rfl
 omega
theorem x9(hs:∀a∈H,a∈l8)(hc:∀t,t∈([3,4]:List Int)→Con aW H 1 t):6≤bP aW H∧2≤H.length:=by
 have hp:∀a∈l8,0<a.bI:=by decide
 rcases oP (hc 3 (by simp))with h|⟨a,ha,ha1,ha2⟩
 ·exact absurd h (by decide)
 rcases oP (hc 4 (by simp))with h|⟨b,hb,hb1,hb2⟩
 ·exact absurd h (by decide)
 have ha1:a.Hop.To=3:=ha1
 have hb1:b.Hop.To=4:=hb1
 have hab:b≠a:=λe=>by rw[e]at hb1;omega
 have h2:=wq hp hs ha hb hab
 refine⟨?_,h2.2⟩
 have three:∀{x:af} {p:af→Bool},x.Hop.bf=2→Con aW (H.filter p) 1 x.Hop.bf→2+a.bI+b.bI≤bP aW H:=λ{x p} hx agE=>by
  rw[hx]at agE
  rcases oP agE with h|⟨c,hc',hc1,_⟩
  ·exact absurd h (by decide)
  have hcH:=(List.mem_filter.1 hc').1
  have hc1:c.Hop.To=2:=hc1
  have:=agC c (hs c hcH) hc1
  have:=x8 hp hs ha hb hcH hab (λe=>by rw[e]at hc1;omega) (λe=>by rw[e]at hc1;omega)
  omega
 rcases agD a (hs a ha) ha1 with⟨_,h3⟩|⟨h3,h3'⟩
 ·rcases zd b (hs b hb) hb1 with⟨_,h4⟩|⟨h4,h4'⟩
  ·omega
  ·have:=three h4 hb2
   omega
 ·have h5:=three h3 ha2
  rcases zd b (hs b hb) hb1 with⟨_,h4⟩|⟨h4,h4'⟩<;>omega
theorem ac4:gn=some true:=by
 unfold gn
 rw[ac2,cO]
 refine rq ac3 (by decide) (by simp) (by decide) (by simp) λx hx=>?_
 rw[cO,x7,cO]
 have hx:ChT s6 1 [3,4] x:=hx
 rcases hx with⟨h1,_,⟨Hs,h3,h4,h5⟩,_⟩|⟨_,h⟩
 ·rw[uO]at h3
  obtain⟨g1,g2⟩:=x9 h3.sub h3.cov
  have g3:=h3.min [⟨⟨1,3⟩,3⟩,⟨⟨1,4⟩,3⟩] (by intro a ha;simp only[List.mem_cons,List.not_mem_nil,or_false]at ha;rcases ha with rfl|rfl<;>simp[l8]) (wo (by simp) (by simp))
  have e:bP aW [⟨⟨1,3⟩,3⟩,⟨⟨1,4⟩,3⟩]=6:=rfl
  have h6:=h5.length_eq
  rw[List.length_map]at h6
  have e1:x.2.1=6:=by omega
  rw[decide_eq_true h1,decide_eq_true e1,decide_eq_true (show(1:Int)<(x.1.Links.length:Int)by omega)]
  rfl
 ·rw[uO]at h
  exact absurd (wo (by simp[l8]) (by simp[l8])) h
end Go.Proofs.Ytmnbolcmepihlaa
