/- Plain: the law afW is true. No condition. -/
import Derived.Test.YtdjeacigeegklaaGreatPYS
import Derived.Test.YtdjeacigeegklaaGreatDL6
namespace Go.Proofs.YtdjeacigeegklaaGreat
set_option linter.all false
open Go
theorem aas(t:List Int)(raw:aF)(top:aa)(f:aO)(p:aH)(down:List Int)(aD:Int):mj t raw top f p down aD=some true:=by
 unfold mj mW
 refine Ok.eq (Ok.jn (λv:Bool=>v=false→raw.List.length≤80∧(top.ah.length≤30∧top.Links.length≤70)) (λv hv0=>Ok.cs (λ_=>by rw[agV];exact⟨true,rfl,rfl⟩) λhc=>?_) λJ hJ=>?_)
 ·obtain⟨h1,h2⟩:=hv0 hc
  refine Ok.bnd (axj t) λs hs=>Ok.bnd (afG hs (by omega)) λq hq=>?_
  obtain⟨g,t1⟩:=q
  obtain⟨hg,ht⟩:=hq
  have hv:Vt g:=hg.v
  have hnr:=hv.nr
  have hnl:=hv.nl
  refine Ok.bnd (agb ht hv hg.n.1) λq hq=>?_
  obtain⟨e,t2⟩:=q
  obtain⟨he,ht⟩:=hq
  have he:Ep g e:=he
  have hE:=he.f.v
  have hel:=hE.small
  refine Ok.bnd (acS ht hv hg.n.1) λq hq=>?_
  obtain⟨ea,t3⟩:=q
  obtain⟨hea,ht⟩:=hq
  have hea:Ef g ea:=hea
  have heal:=hea.v.small
  refine Ok.bnd (wM ht (by simp) (by simp)) λn hn=>?_
  obtain⟨n,t4⟩:=n
  refine ai9 (e:=e) (t:=t4) hE hn.2 λm L A hm ht=>?_
  dsimp only
  refine Ok.bnd (ahQ (g:=g) ht (by omega)) λr hr=>Ok.bnd (uX (g:=g) hr.2 ⟨hg.n.1,by omega⟩ (by omega)) λf1 hf1=>Ok.bnd (uX (g:=g) hf1.2 ⟨hg.n.1,by omega⟩ (by omega)) λf2 hf2=>?_
  have l1:=hf1.1.len
  have l2:=hf2.1.len
  refine Ok.bnd (th (by omega)) λl hl=>?_
  refine Ok.forM (L:=[raw,e,ea]) (λ_ (sg:List bU×List Int×List Int×Int)=>dO (aX.mk sg.2.2.1 sg.2.2.2)) (λj x s Z hj hm hI hZ=>?_) _ hf2.2 λs _=>by rw[agV];exact⟨true,rfl,rfl⟩
  obtain⟨L7,L8,L9,A0⟩:=s
  have hxl:x.List.length≤100:=by
   simp only[List.mem_cons,List.not_mem_nil,or_false]at hm
   rcases hm with rfl|rfl|rfl<;>omega
  dsimp only
  rw[nX x (by omega),nY x (by omega),aN,aN]
  refine Ok.cs (λhc=>by simp at hc) λ_=>?_
  refine Ok.forM (L:=[top,g]) (λ_ (sg:List Int×Int)=>dO (aX.mk sg.1 sg.2)) (λj y s Z hj hm hI hZ=>?_) _ hI λs hs=>hZ _ hs
  obtain⟨L1,A1⟩:=s
  have hyl:y.ah.length≤100:=by
   simp only[List.mem_cons,List.not_mem_nil,or_false]at hm
   rcases hm with rfl|rfl<;>omega
  refine Ok.forM (L:=[p,_]) (λ_ (sg:List Int×Int)=>dO (aX.mk sg.1 sg.2)) (λj z s Z hj hm hI hZ=>?_) _ hI λs hs=>hZ _ hs
  obtain⟨L2,A2⟩:=s
  refine Ok.forM (L:=[aD,r.1]) (λ_ (sg:List Int×Int)=>dO (aX.mk sg.1 sg.2)) (λj k s Z hj hm hI hZ=>?_) _ hI λs hs=>hZ _ hs
  obtain⟨L3,A3⟩:=s
  have hI:dO (aX.mk L3 A3):=hI
  dsimp only
  rw[uc,aN]
  refine Ok.bnd (alf (g:=g) (n:=2) hI (by omega) (by omega)) λso hso=>?_
  refine Ok.forM (L:=[down,_,so.1]) (λ_ (_:Unit)=>True) (λj d s Z4 hj hm _ hZ4=>?_) () trivial λs _=>?_
  ·rw[uT x y k z d (by omega),uU x y k z d (by omega),aN,aN]
   unfold jn
   rw[decide_eq_true rfl,afL]
   simp only[Bool.not_true,cond_false,aN]
   exact hZ4 () trivial
  ·refine Ok.bnd (uX (g:=g) hso.2 ⟨hg.n.1,by omega⟩ (by omega)) λf3 hf3=>?_
   refine Ok.forM (L:=[f,f3.1,aO.mk L7 L8,aO.mk [] []]) (λ_ (_:Unit)=>True) (λj w s Z4 hj hm _ hZ4=>?_) () trivial λs _=>hZ _ hf3.2
   rw[aep x y w z k (by omega) (by omega),aeq x y w z k (by omega),aN,aN]
   unfold jn
   rw[decide_eq_true rfl,ahX]
   simp only[Bool.not_true,cond_false,aN]
   exact hZ4 () trivial
 ·simp only[aN]
  refine Ok.cs (λhc=>hJ _ λh=>by cases h) λhc=>Ok.cs (λhc=>hJ _ λh=>by cases h) λhc2=>Ok.cs (λhc=>hJ _ λh=>by cases h) λhc3=>Ok.cs (λhc=>hJ _ λh=>by cases h) λhc4=>hJ _ λhn=>?_
  simp at hc hc2;omega
end Go.Proofs.YtdjeacigeegklaaGreat
