/- Plain: the law aiK is true. No condition. -/
import Derived.Test.YtdjeacigeegklaaGreatPYV
import Derived.Test.YtdjeacigeegklaaGreatPYW
import Derived.Test.YtdjeacigeegklaaGreatPYS
import Derived.Test.YtdjeacigeegklaaGreatDL8
namespace Go.Proofs.YtdjeacigeegklaaGreat
set_option linter.all false
open Go
theorem acz(t:List Int):nG t=some true:=by
 unfold nG
 refine Ok.eq (Ok.bnd (ax2 t) λs hs=>Ok.bnd (aiI hs) λq hq=>?_)
 obtain⟨g,e,x,rs,Q,ok,t1⟩:=q
 obtain⟨hg,ht,hq,hel,hxl⟩:=hq
 have hg:Vn g 7:=hg
 have hel:e.List.length≤1000:=hel
 have hxl:x.Links.length≤200:=hxl
 have hv:Vt g:=hg.v
 have hnr:=hv.nr
 have hnl:=hv.nl
 have hgn:1≤g.aj.length:=hg.n.1
 dsimp only
 refine Ok.cs (λ_=>by rw[aei];exact⟨true,rfl,rfl⟩) λhok=>?_
 obtain⟨td,hpk,aaM⟩:=hq (by simpa using hok)
 have td:Td g e x rs Q.Bits:=td
 have hpk:Pk e Q:=hpk
 have aaM:Q.TTL=63:=aaM
 obtain⟨D,C,hrun,_⟩:=amk td hpk aaM
 have hG:xR e g Q x.dS=(cC.mk D C [],0):=by rw[ajX td hpk,hrun]
 rw[ae8 e g Q x.dS hel (by omega),aM,zx e g _ Q x.dS hel (by omega),aM,ae3 td hpk aaM (f:=bF.mk [] []) ⟨λ_ _=>by simp,λ_ _=>by simp⟩,hG]
 simp only[jn,decide_true,Bool.not_true,cond_false,adq,aM]
 refine Ok.bnd (afa (g:=g) ht ⟨hgn,by omega⟩ (by omega)) λf hf=>?_
 obtain⟨f,t2⟩:=f
 rw[uO x (by omega),aM]
 have e1:∀K:Bool→Option Bool,bD (nX x) 0 (λ(j1:Int) (e1:Int) (Z1:Bool→Option Bool) (jt:Bool)=>(bif jt then Z1 true else bnd (eF f.aj e1) λ(lI:Bool)=>Z1 lI)) K false=K (false||(nX x).any λy=>decide (y∈f.aj)):=λK=>
  aeg (λy:Int=>decide (y∈f.aj)) (λj y Z s=>by rw[acm,aM];cases s<;>rfl) (nX x) 0 false
 have e2:∀(K:Bool→Option Bool) (c:Bool),bD x.Links 0 (λ(j2:Int) (e2:aV) (Z2:Bool→Option Bool) (iW:Bool)=>bD f.Links 0 (λ(j3:Int) (e3:aV) (Z3:Bool→Option Bool) (gK:Bool)=>(bif gK then Z3 true else(bif decide (e3.bx=e2.bx)then(bif decide (e3.To=e2.To)then Z3 true else(bif decide (e3.bx=e2.To)then Z3 (decide (e3.To=e2.bx))else Z3 false))else(bif decide (e3.bx=e2.To)then Z3 (decide (e3.To=e2.bx))else Z3 false)))) (λ(gK:Bool)=>Z2 gK) iW) K c=K (c||x.Links.any λh=>f.Links.any λk=>(decide (k.bx=h.bx)&&decide (k.To=h.To))||(decide (k.bx=h.To)&&decide (k.To=h.bx))):=λK c=>
  aeg (λh:aV=>f.Links.any λk=>(decide (k.bx=h.bx)&&decide (k.To=h.To))||(decide (k.bx=h.To)&&decide (k.To=h.bx))) (λj h Z s=>
   aeg (λk:aV=>(decide (k.bx=h.bx)&&decide (k.To=h.To))||(decide (k.bx=h.To)&&decide (k.To=h.bx))) (λj k Z s=>by
    cases s<;>cases decide (k.bx=h.bx)<;>cases decide (k.To=h.To)<;>cases decide (k.bx=h.To)<;>cases decide (k.To=h.bx)<;>rfl) f.Links 0 s) x.Links 0 c
 rw[e1,e2]
 refine Ok.cs (λ_=>by rw[aei];exact⟨true,rfl,rfl⟩) λhc=>?_
 have hc:((nX x).any λy=>decide (y∈f.aj))=false∧(x.Links.any λh=>f.Links.any λk=>(decide (k.bx=h.bx)&&decide (k.To=h.To))||(decide (k.bx=h.To)&&decide (k.To=h.bx)))=false:=by
  simpa only[Bool.or_eq_false_iff,Bool.false_or]using hc
 have hA:aiJ x f:=by
  refine⟨λy hy hm=>?_,λh hh=>?_⟩
  ·have:=any_false.1 hc.1 y ((abc td.vr).2 hy)
   exact of_decide_eq_false this hm
  ·have:=any_false.1 (any_false.1 hc.2 h hh)
   constructor
   ·intro hm
    have:=this h hm
    simp at this
   ·intro hm
    have:=this _ hm
    simp at this
 rw[zx e g f Q x.dS hel (by omega),aM,ae3 td hpk aaM hA,hG]
 simp only[decide_true,cond_true,adq,aM,aei]
 exact⟨true,rfl,rfl⟩
end Go.Proofs.YtdjeacigeegklaaGreat
