/- Plain: chapter 32's example. No condition. -/
import Derived.Test.YtmnbolcmepihlaaGreatPQA
import Derived.Test.YtmnbolcmepihlaaGreatDL
namespace Go.Proofs.YtmnbolcmepihlaaGreat
set_option linter.all false
open Go
set_option maxRecDepth 100000
def xE:aj:=aj.mk [aK.mk 1 true,aK.mk 2 true,aK.mk 3 true,aK.mk 4 true] [aU.mk 1 2 2 2 0,aU.mk 1 3 3 3 0,aU.mk 1 4 3 3 0,aU.mk 2 3 2 2 0,aU.mk 2 4 2 2 0]
theorem aiv:lS=some xE:=by kernel_rfl
theorem aiw:Vt xE:=lU.1 (by kernel_rfl)
theorem acE:iC xE 1 [3,4] [jR.mk [2,3,4] 1,jR.mk [3] 2,jR.mk [4] 2]=some (5,0):=by kernel_rfl
def pM:List aq:=[⟨⟨1,2⟩,2⟩,⟨⟨2,1⟩,2⟩,⟨⟨1,3⟩,3⟩,⟨⟨3,1⟩,3⟩,⟨⟨1,4⟩,3⟩,⟨⟨4,1⟩,3⟩,⟨⟨2,3⟩,2⟩,⟨⟨3,2⟩,2⟩,⟨⟨2,4⟩,2⟩,⟨⟨4,2⟩,2⟩]
theorem zi:ei xE=pM:=rfl
theorem alZ:∀a∈pM,a.Hop.To=2→2≤a.bO:=by decide
theorem al0:∀a∈pM,a.Hop.To=3→(a.Hop.aH=1∧a.bO=3)∨(a.Hop.aH=2∧a.bO=2):=by decide
theorem adQ:∀a∈pM,a.Hop.To=4→(a.Hop.aH=1∧a.bO=3)∨(a.Hop.aH=2∧a.bO=2):=by decide
variable {H:List aq}
theorem aaO(h1:aq.mk ⟨1,3⟩ 3∈H)(h2:aq.mk ⟨1,4⟩ 3∈H):∀t,t∈([3,4]:List Int)→Con aX H 1 t:=by
 intro t ht
 simp only[List.mem_cons,List.not_mem_nil,or_false]at ht
 rcases ht with rfl|rfl
 ·exact Con.step (N:=aX) (aq.mk ⟨1,3⟩ 3) h1 (.refl _)
 ·exact Con.step (N:=aX) (aq.mk ⟨1,4⟩ 3) h2 (.refl _)
variable {L:List aq}{a b:aq}
theorem aaP(hp:∀a∈L,0<a.bO)(hs:∀a∈H,a∈L)(ha:a∈H)(hb:b∈H)(hab:b≠a):a.bO+b.bO≤cz aX H∧2≤H.length:=by
 have h1:=l8 (N:=aX) ha
 have hb2:b∈H.erase a:=(List.mem_erase_of_ne hab).2 hb
 have h2:=l8 (N:=aX) hb2
 have h3:0≤cz aX ((H.erase a).erase b):=oH λc hc=>by
  have:=hp c (hs c (List.mem_of_mem_erase (List.mem_of_mem_erase hc)))
  show 0≤c.bO
  omega
 have h4:=List.length_erase_of_mem ha
 have h5:=List.length_pos_of_mem hb2
 refine⟨?_,by omega⟩
 have e1:aX.cost a=a.bO:=rfl
 have e2:aX.cost b=b.bO:=rfl
 omega
theorem acF(hp:∀a∈L,0<a.bO)(hs:∀a∈H,a∈L){c:aq}(ha:a∈H)(hb:b∈H)(hc:c∈H)(hab:b≠a)(hac:c≠a)(hbc:c≠b):a.bO+b.bO+c.bO≤cz aX H:=by
 have h1:=l8 (N:=aX) ha
 have h2:=(aaP (L:=L) (H:=H.erase a) hp (λx hx=>hs x (List.mem_of_mem_erase hx)) ((List.mem_erase_of_ne hab).2 hb) ((List.mem_erase_of_ne hac).2 hc) hbc).1
 have e1:aX.cost a=a.bO:=rfl
 omega
theorem acG(hs:∀a∈H,a∈pM)(hc:∀t,t∈([3,4]:List Int)→Con aX H 1 t):6≤cz aX H∧2≤H.length:=by
 have hp:∀a∈pM,0<a.bO:=by decide
 rcases qq (hc 3 (by simp))with h|⟨a,ha,ha1,ha2⟩
 ·exact absurd h (by decide)
 rcases qq (hc 4 (by simp))with h|⟨b,hb,hb1,hb2⟩
 ·exact absurd h (by decide)
 have ha1:a.Hop.To=3:=ha1
 have hb1:b.Hop.To=4:=hb1
 have hab:b≠a:=λe=>by rw[e]at hb1;omega
 have h2:=aaP hp hs ha hb hab
 refine⟨?_,h2.2⟩
 have three:∀{x:aq} {p:aq→Bool},x.Hop.aH=2→Con aX (H.filter p) 1 x.Hop.aH→2+a.bO+b.bO≤cz aX H:=λ{x p} hx al1=>by
  rw[hx]at al1
  rcases qq al1 with h|⟨c,hc',hc1,_⟩
  ·exact absurd h (by decide)
  have hcH:=(List.mem_filter.1 hc').1
  have hc1:c.Hop.To=2:=hc1
  have:=alZ c (hs c hcH) hc1
  have:=acF hp hs ha hb hcH hab (λe=>by rw[e]at hc1;omega) (λe=>by rw[e]at hc1;omega)
  omega
 rcases al0 a (hs a ha) ha1 with⟨_,h3⟩|⟨h3,h3'⟩
 ·rcases adQ b (hs b hb) hb1 with⟨_,h4⟩|⟨h4,h4'⟩
  ·omega
  ·have:=three h4 hb2
   omega
 ·have h5:=three h3 ha2
  rcases adQ b (hs b hb) hb1 with⟨_,h4⟩|⟨h4,h4'⟩<;>omega
theorem abB:iY=some true:=by
 unfold iY
 rw[aiv,aP]
 refine vQ aiw (by decide) (by simp) (by decide) (by simp) λx hx=>?_
 rw[aP,acE,aP]
 have hx:ChT xE 1 [3,4] x:=hx
 rcases hx with⟨h1,_,⟨Hs,h3,h4,h5⟩,_⟩|⟨_,h⟩
 ·rw[zi]at h3
  obtain⟨g1,g2⟩:=acG h3.sub h3.cov
  have g3:=h3.min [⟨⟨1,3⟩,3⟩,⟨⟨1,4⟩,3⟩] (by intro a ha;simp only[List.mem_cons,List.not_mem_nil,or_false]at ha;rcases ha with rfl|rfl<;>simp[pM]) (aaO (by simp) (by simp))
  have e:cz aX [⟨⟨1,3⟩,3⟩,⟨⟨1,4⟩,3⟩]=6:=rfl
  have h6:=h5.length_eq
  rw[List.length_map]at h6
  have e1:x.2.1=6:=by omega
  rw[decide_eq_true h1,decide_eq_true e1,decide_eq_true (show(1:Int)<(x.1.Links.length:Int)by omega)]
  rfl
 ·rw[zi]at h
  exact absurd (aaO (by simp[pM]) (by simp[pM])) h
end Go.Proofs.YtmnbolcmepihlaaGreat
