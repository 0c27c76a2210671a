/- Plain: the law abW. No condition. -/
import Derived.Test.YtjdopimopgpagaaGreatPN
import Derived.Test.YtjdopimopgpagaaGreatPA9
import Derived.Test.YtjdopimopgpagaaGreatDL5
namespace Go.Proofs.YtjdopimopgpagaaGreat
set_option linter.all false
open Go
theorem aji{t:aS}{f:aB}{n:Int}(h:ct t)(hf:Wc f)(hs:f.Links.length≤100∧f.aF.length≤100∧f.ay.length≤1000)(hn:n≤9223372036854775807):Ok (oJ t f n) (λp=>(Wc p.1∧p.1.Links.length≤101)∧ct p.2):=by
 obtain⟨f1,f2,f3⟩:=hs
 unfold oJ
 refine Ok.bnd (qA h hn) λp1 h1=>?_
 refine Ok.cs (λ_=>Ok.s ⟨⟨hf,by show f.Links.length≤_;omega⟩,h1⟩) λ_=>?_
 refine Ok.jn (λs:List Int×Int×List aK×List aW×List aR=>(Wc (aB.mk s.2.2.1 s.2.2.2.1 s.2.2.2.2)∧s.2.2.1.length≤101)∧ct (aS.mk s.1 s.2.1)) (λs hs=>Ok.s hs) λJ hJ=>?_
 refine Ok.bnd (dR h1 (by omega)) λp2 h2=>?_
 have whole:∀{α:Type} (l:List α),nw l 0 (l.length:Int)=some l:=λl=>by
  unfold nw
  rw[if_pos ⟨by omega,by omega,by omega⟩]
  simp
 have node:∀x:aW,x.Claims.length≤100000→SmD x.Database→Wc (aB.mk f.Links (f.aF++[x]) f.ay):=λx hx1 hx2=>by
  refine⟨⟨by show f.Links.length≤_;omega,by show(f.aF++[x]).length≤_;simp;omega⟩,by show f.ay.length≤_;omega,λy hy=>?_,hf.g⟩
  rcases List.mem_append.1 hy with hy|hy
  ·exact hf.n y hy
  ·rw[List.mem_singleton.1 hy];exact⟨hx1,hx2⟩
 have nil:SmD (aG.mk []):=⟨by simp,by simp⟩
 refine Ok.cs (λ_=>?_) λ_=>?_
 ·rw[whole,aO,dQ (by simp;omega),aO]
  refine hJ _ ⟨⟨⟨⟨by simp;omega,by show f.aF.length≤_;omega⟩,by show f.ay.length≤_;omega,hf.n,hf.g⟩,by simp;omega⟩,h2.2⟩
 refine Ok.cs (λ_=>?_) λ_=>?_
 ·rw[whole,aO]
  refine Ok.bnd (dR h2.2 (by omega)) λp3 h3=>Ok.bnd (w6 h3.2) λp4 h4=>?_
  rw[dQ (by simp;omega),aO]
  exact hJ _ ⟨⟨node _ (by simp) nil,by simp only;omega⟩,h4⟩
 refine Ok.cs (λ_=>?_) λ_=>?_
 ·rw[whole,aO]
  refine Ok.bnd (dR h2.2 (by omega)) λp3 h3=>Ok.bnd (dR h3.2 (by omega)) λp4 h4=>?_
  rw[dQ (by simp;omega),aO]
  refine hJ _ ⟨⟨⟨hf.s,by simp;omega,hf.n,λy hy=>?_⟩,by simp only;omega⟩,h4.2⟩
  rcases List.mem_append.1 hy with hy|hy
  ·exact hf.g y hy
  ·rw[List.mem_singleton.1 hy];exact nil
 refine Ok.cs (λ_=>?_) λ_=>?_
 ·rw[whole,aO]
  refine Ok.bnd (aak h2.2 (by omega)) λp3 h3=>?_
  rw[dQ (by simp;omega),aO]
  exact hJ _ ⟨⟨node _ (by simp) h3.1.1,by simp only;omega⟩,h3.2⟩
 ·rw[whole,aO]
  refine Ok.bnd (dR h2.2 (by omega)) λp3 h3=>Ok.bnd (jM h3.2 (by decide) (by decide)) λp4 h4=>?_
  rw[dQ (by simp;omega),aO]
  exact hJ _ ⟨⟨node _ (by simp) nil,by simp only;omega⟩,h4.2⟩
theorem xe(t:List Int)(raw:List aK):jv t raw=some true:=by
 refine Ok.eq ?_
 unfold jv
 refine Ok.bnd (apv t) λs hs=>?_
 refine Ok.bnd (ae4 hs (by omega) (by omega)) λa ha=>?_
 have hav:=ha.1.v
 have hal:a.1.Links.length≤60:=hav.t.nl
 have han:=hav.len
 have ham:=hav.m
 refine Ok.bnd (aji ha.2 hav.wc ⟨by omega,by omega,by omega⟩ (by omega)) λb hb=>?_
 obtain⟨⟨hw,hbl⟩,hbt⟩:=hb
 rw[pU hw.s,aO,aO]
 refine Ok.bnd (agp hbt ⟨by have:=hw.s.2;show(b.1.aF.map _).length≤_;simp;omega,by show b.1.Links.length≤_;omega⟩) λu hu=>?_
 rw[aeW,aO]
 have hwl:(vE (aY b.1) u.1).Links.length≤101:=by
  unfold vE
  split
  ·refine Nat.le_trans (List.length_filter_le _ _) ?_
   exact hbl
  ·simp
 refine Ok.bnd (aiR hu.2 (by omega) (by omega)) λv hv=>?_
 have hvl:=hv.1.2.2
 refine Ok.whl (λs:Int=>0≤s∧s≤3) (λs=>(3-s).toNat) ⟨by omega,by omega⟩ (by omega) ?_
 rintro i Z hi hZ
 refine Ok.cs (λh=>?_) λ_=>?_
 ·simp only[Bool.and_eq_true,decide_eq_true_eq]at h
  have hi3:i<3:=by have:=h.1;simpa using this
  have hraw:raw.length≤100:=by omega
  refine Ok.bnd (mK (l:=[(vE (aY b.1) u.1).Links,v.1.Links,raw]) hi.1 (by simpa using hi3)) λe he=>?_
  have hel:e.length≤100000:=by
   have hm:=he.1
   simp only[List.mem_cons,List.not_mem_nil,or_false]at hm
   rcases hm with rfl|rfl|rfl<;>omega
  obtain⟨p,a1,a2,s1⟩:=ae3 hw hel
  simp only[a1,a2,aO,jn,agB _ s1,decide_true,Bool.not_true,cond_false]
  rw[cB (by omega) (by omega)]
  exact hZ _ ⟨by omega,by omega⟩ (by omega)
 ·rw[apR];exact Ok.s rfl
end Go.Proofs.YtjdopimopgpagaaGreat
