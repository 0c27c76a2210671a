/- Plain: what the laws of zj read from the tape. No condition but bK bn stand in each. -/
import Derived.Test.YtdjeacigeegklaaGreatPYR
namespace Go.Proofs.YtdjeacigeegklaaGreat
set_option linter.all false
open Go
theorem ae0(t:aa)(n:Int):(kY t n).1.List.length≤1000:=by
 unfold kY
 by_cases h:eU t=0
 ·have:=zf (fK.1 h)
  rw[if_pos h]
  cases !kU n
  ·by_cases h2:n<((gL t).length:Int)
   ·simp[h2]
   ·simp only[h2,if_false,cond_false,rQ];omega
  ·simp
 ·simp[h]
theorem aei:j8=some true:=by
 have key:j8=(bnd (mI) λ(ai:aa)=>bnd (mP ai (16:Int)) λ(aD:aC×Int)=>bnd (mQ aD.1 (dY.mk (1:Int) ([(aV.mk (1:Int) (2:Int)),(aV.mk (2:Int) (3:Int))]:List aV)) ([(2:Int),(3:Int)]:List Int)) λ(aX:Int×Int)=>bnd (mI) λ(bu:aa)=>bnd (tu aD.1 bu (1:Int) (aH.mk (2:Int) (0:Int) (0:Int) (16:Int) (9:Int) (0:Int) (0:Int) (0:Int) aX.1 (⟨#[]⟩:ByteArray)) ([(2:Int)]:List Int)) λ(bz:cG×Int)=>(bif decide (bz.2=(0:Int))then(bif decide ((bz.1.bY.length:Int)=(2:Int))then bnd (elO bz.1.bY (0:Int)) λ(e_1:bg)=>(bif decide (e_1.To=(4:Int))then bnd (ji e_1.Frame.gZ ([(3:Int)]:List Int)) λ(cw:Bool)=>(bif cw then bnd (elO bz.1.bY (1:Int)) λ(e_2:bg)=>bnd (ji e_2.Frame.gZ ([(3:Int),(2:Int)]:List Int)) λ(bN:Bool)=>(bif bN then some (decide (bz.1.jF=(0:Int)))else some false)else some false)else some false)else some false)else some false)):=by
  unfold j8
  congr 1;funext v1
  rw[adm,aM,aM]
  congr 1;funext v3
  congr 1;funext v4
  rw[zw _ _ _ _ _ (ae0 _ _),ae9 _ _ _ _ _ (ae0 _ _)]
 exact key.trans (by kernel_rfl)
structure Ep(t:aa)(e:aC):Prop where
 f:Ef t e
 p:∀a∈e.List,a.Kind≠2
theorem Ep.pl{t:aa}{e:aC}(h:Ep t e):plB e=true:=yu.2 ⟨h.f.v,h.p⟩
def One(g:aa)(f:bF):Prop:=(∃l∈g.Links,f.aj=[]∧(f.Links=[aV.mk l.A l.B]∨f.Links=[aV.mk l.B l.A]))∨(∃r∈ids g,f.Links=[]∧f.aj=[r])
theorem One.len{g:aa}{f:bF}(h:One g f):f.Links.length≤1∧f.aj.length≤1:=by
 rcases h with⟨l,_,h1,h2|h2⟩|⟨r,_,h1,h2⟩<;>rw[h1,h2]<;>simp
theorem afa{t:bL}{g:aa}(h:fV t)(hr:1≤g.aj.length∧g.aj.length≤1000)(hl:g.Links.length≤1000):Ok (nF t g) (λq=>One g q.1∧fV q.2):=by
 unfold nF
 refine Ok.jn (λsg:Bool×List Int×Int=>(sg.1=true→0<g.Links.length)∧fV (bL.mk sg.2.1 sg.2.2)) (λs hs=>?_) λJ hJ=>?_
 ·obtain⟨b,L,A⟩:=s
  obtain⟨h1,h2⟩:=hs
  dsimp only
  refine Ok.cs (λhb=>?_) λ_=>?_
  ·have hp:=h1 hb
   refine Ok.bnd (f_n h2 (by omega)) λk hk=>Ok.bnd (jM hk.1.1 (hk.1.2.1 (by omega))) λl hl=>Ok.bnd (f_n hk.2 (by omega)) λc hc=>Ok.cs (λ_=>Ok.s ⟨.inl ⟨l,hl.1,rfl,.inl rfl⟩,hc.2⟩) λ_=>Ok.s ⟨.inl ⟨l,hl.1,rfl,.inr rfl⟩,hc.2⟩
  ·refine Ok.bnd (f_n h2 (by omega)) λk hk=>Ok.bnd (jM hk.1.1 (hk.1.2.1 (by omega))) λr hr=>Ok.s ⟨.inr ⟨r.ID,List.mem_map.2 ⟨r,hr.1,rfl⟩,rfl,rfl⟩,hk.2⟩
 ·refine Ok.cs (λhc=>?_) λ_=>hJ _ ⟨(λhb=>(by cases hb)),h⟩
  have hc:0<g.Links.length:=by simpa using hc
  exact Ok.bnd (f_n h (by omega)) λk hk=>hJ _ ⟨λ_=>hc,hk.2⟩
end Go.Proofs.YtdjeacigeegklaaGreat
