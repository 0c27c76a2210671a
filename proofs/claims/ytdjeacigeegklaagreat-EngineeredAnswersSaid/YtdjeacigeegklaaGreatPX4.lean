/- Plain: the law aag is true. No condition. -/
import Derived.Test.YtdjeacigeegklaaGreatPYP
import Derived.Test.YtdjeacigeegklaaGreatPYI
import Derived.Test.YtdjeacigeegklaaGreatDL4
namespace Go.Proofs.YtdjeacigeegklaaGreat
set_option linter.all false
open Go
theorem ae4{g:af}(hg:g.aq.length≤1000∧g.Links.length≤1000)(a b r:Int):Ok (oB g a b r) (λt=>t.aq.length≤g.aq.length∧t.Links.length≤g.Links.length):=by
 unfold oB
 refine Ok.forM (L:=g.aq) (λj (m:List aY)=>m.length≤j) (λj x s Z hj hm hI hZ=>?_) [] (by simp) λm hm=>?_
 ·unfold jn
  refine Ok.cs (λ_=>Ok.bnd (mJ (by simp;omega)) λl hl=>hZ _ (by have:=hl.2;simp at this;omega)) λ_=>hZ _ (by omega)
 ·refine Ok.forM (L:=g.Links) (λj (m:List bt)=>m.length≤j) (λj x s Z hj hm hI hZ=>?_) [] (by simp) λm2 hm2=>Ok.s ⟨hm,hm2⟩
  unfold jn
  refine Ok.cs (λ_=>Ok.bnd (mJ (by simp;omega)) λl hl=>hZ _ (by have:=hl.2;simp at this;omega)) λ_=>hZ _ (by omega)
theorem aml{t:aR}{p:aD}(h:dh t):Ok (pE t p) (λq=>dh q.2):=by
 unfold pE
 refine Ok.jn (λsg:List Int×Int×Int×Int×Int×Int×Int=>dh (aR.mk sg.1 sg.2.1)) (λs hs=>Ok.s hs) λJ hJ=>?_
 refine Ok.bnd (f_n h (by omega)) λa ha=>Ok.cs (λ_=>?_) λ_=>Ok.cs (λ_=>?_) λ_=>Ok.cs (λ_=>?_) λ_=>Ok.cs (λ_=>?_) λ_=>?_
 ·exact Ok.bnd (z6 ha.2) λb hb=>hJ _ hb.2
 ·exact Ok.bnd (pG ha.2 (by simp) (by simp)) λb hb=>hJ _ hb.2
 ·exact Ok.bnd (pG ha.2 (by simp) (by simp)) λb hb=>hJ _ hb.2
 ·refine Ok.bnd (f_n ha.2 (by omega)) λb hb=>?_
  have ew:IntKind.wrap .u64 b.1=b.1:=wrap_u64 hb.1.1 (by have:=hb.1.2.1 (by omega);omega)
  rw[ew]
  exact Ok.chk (by simpa using hb.1.1) (hJ _ hb.2)
 ·exact Ok.bnd (pG ha.2 (by simp) (by simp)) λb hb=>hJ _ hb.2
theorem agY(e:aG)(x:cM)(rs:List Int)(p:aD)(h1:e.List.length≤1000)(h2:x.Links.length≤1000)(h3:rs.length≤1000):∃q,jI e x rs p=some q∧nM e x rs p=some q:=by
 unfold jI nM
 rw[amg e x rs (by omega) (by omega) (by omega),agQ e x rs (by omega) (by omega) (by omega)]
 simp only[aV,lZ,oE]
 cases h:decide ((z8 e x rs).2=0)
 ·exact⟨_,rfl,rfl⟩
 ·simp only[Bool.not_true,cond_false]
  cases ng (aD.mk 2 p.bL p.Set e.Length p.TTL p.cn p.cq p.dg (z8 e x rs).1 p.cm)
  ·exact⟨_,rfl,rfl⟩
  ·exact⟨_,rfl,rfl⟩
theorem vt(t:List Int)(raw:aG)(top:af)(p:aD)(tree:cM)(aK:Int):ja t raw top p tree aK=some true:=by
 unfold ja l7
 refine Ok.eq (Ok.jn (λv:Bool=>v=false→raw.List.length≤80∧(top.aq.length≤30∧top.Links.length≤70)∧tree.Links.length≤40) (λv hv0=>Ok.cs (λ_=>by rw[afz];exact⟨true,rfl,rfl⟩) λhc=>?_) λJ hJ=>?_)
 ·obtain⟨h1,h2,h3⟩:=hv0 hc
  refine Ok.bnd (aBh t) λs hs=>Ok.bnd (aeC hs (by omega)) λq hq=>?_
  obtain⟨g,t1⟩:=q
  obtain⟨hg,ht⟩:=hq
  have hv:Vt g:=hg.v
  have hnr:=hv.nr
  have hnl:=hv.nl
  refine Ok.bnd (agP ht hv hg.n.1) λq hq=>?_
  obtain⟨e,t2⟩:=q
  obtain⟨he,ht⟩:=hq
  have he:Ef g e:=he
  have hE:=he.v
  have hel:=hE.small
  refine Ok.bnd (agU (e:=e) ht hE) λa ha=>Ok.bnd (agK (g:=g) ha.2 (by omega)) λr hr=>?_
  refine Ok.jn (λsg:List Int×Int×List aY×List bt=>dh (aR.mk sg.1 sg.2.1)∧sg.2.2.1.length≤24∧sg.2.2.2.length≤60) (λs hs=>?_) λJ2 hJ2=>?_
  rotate_left
  ·refine Ok.cs (λhc2=>?_) λ_=>hJ2 _ ⟨hr.2,hnr,hnl⟩
   have hc2:(0:Int)<(g.Links.length:Int):=by simpa using hc2
   dsimp only
   refine Ok.bnd (f_n hr.2 (by omega)) λk hk=>Ok.bnd (iX hk.1.1 (hk.1.2.1 (by omega))) λl hl=>Ok.bnd (ae4 (g:=g) (by omega) _ _ _) λw hw=>hJ2 _ ⟨hk.2,by simp only;omega,by simp only;omega⟩
  obtain⟨L0,A0,lr,ll⟩:=s
  obtain⟨hs0,hs1,hs2⟩:=hs
  have hs1:lr.length≤24:=hs1
  refine Ok.forM (L:=[raw,e]) (λ_ (sg:List Int×Int)=>dh (aR.mk sg.1 sg.2)) (λj x s Z hj hm hI hZ=>?_) _ hs0 λs _=>by rw[afz];exact⟨true,rfl,rfl⟩
  obtain⟨L1,A1⟩:=s
  have hI:dh (aR.mk L1 A1):=hI
  have hxl:x.List.length≤100:=by
   simp only[List.mem_cons,List.not_mem_nil,or_false]at hm
   rcases hm with rfl|rfl<;>omega
  refine Ok.bnd (aml (p:=a.1) hI) λb hb=>?_
  refine Ok.forM (L:=[p,a.1,b.1]) (λ_ (sg:List Int×Int)=>dh (aR.mk sg.1 sg.2)) (λj y s Z2 hj hm hI2 hZ2=>?_) _ hb λs hs=>hZ _ hs
  obtain⟨L2,A2⟩:=s
  have hI2:dh (aR.mk L2 A2):=hI2
  refine Ok.forM (L:=[aK,r.1]) (λ_ (_:Unit)=>True) (λj k s Z3 hj hm _ hZ3=>?_) () trivial λs _=>?_
  ·simp only[jn]
   rw[ab5 x k y (by omega),tW x k y (by omega),aV,aV,decide_eq_true rfl,aeO]
   simp only[Bool.not_true,cond_false,aV]
   refine Ok.forM (L:=[top,g,af.mk lr ll]) (λ_ (_:Unit)=>True) (λj z s Z4 hj hm _ hZ4=>?_) () trivial λs _=>hZ3 () trivial
   have hzl:z.aq.length≤100:=by
    simp only[List.mem_cons,List.not_mem_nil,or_false]at hm
    rcases hm with rfl|rfl|rfl
    ·omega
    ·omega
    ·simp only;omega
   rw[ae3 x z y k (by omega) (by omega),adw x z y k (by omega) (by omega),aV,aV,decide_eq_true rfl,agX]
   simp only[Bool.not_true,cond_false,aV]
   exact hZ4 () trivial
  ·refine Ok.bnd (al9 (g:=g) hI2 hv) λz hz=>?_
   have hzl:=hz.1.len
   refine Ok.forM (L:=[tree,z.1]) (λ_ (sg:List Int×Int)=>dh (aR.mk sg.1 sg.2)) (λj x2 s Z5 hj hm hI5 hZ5=>?_) _ hz.2 λs hs=>hZ2 _ hs
   have hx2:x2.Links.length≤200:=by
    simp only[List.mem_cons,List.not_mem_nil,or_false]at hm
    rcases hm with rfl|rfl<;>omega
   obtain⟨L5,A5⟩:=s
   have hI5:dh (aR.mk L5 A5):=hI5
   have hrl:=afs x2
   dsimp only
   rw[yd x2 (by omega),aV]
   refine Ok.bnd (al8 (g:=g) hI5 (by omega) (by omega)) λso hso=>?_
   refine Ok.forM (L:=[qQ x2,so.1]) (λ_ (_:Unit)=>True) (λj w s Z6 hj hm _ hZ6=>?_) () trivial λs _=>hZ5 _ hso.2
   have hwl:w.length≤300:=by
    simp only[List.mem_cons,List.not_mem_nil,or_false]at hm
    rcases hm with rfl|rfl
    ·omega
    ·have:=hso.1.2.2;omega
   obtain⟨u,hu1,hu2⟩:=agY x x2 w y (by omega) (by omega) (by omega)
   rw[hu1,hu2,aV,aV,decide_eq_true rfl,aeN]
   exact hZ6 () trivial
 ·simp only[aV]
  refine Ok.cs (λhc=>hJ _ λh=>by cases h) λhc=>Ok.cs (λhc2=>hJ _ λh=>by cases h) λhc2=>hJ _ λhn=>?_
  simp at hc hc2 hn;omega
end Go.Proofs.YtdjeacigeegklaaGreat
