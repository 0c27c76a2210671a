/- Plain: what the laws of acU read from the tape. No condition but bO bx stand in each. -/
import Derived.Test.YtdjeacigeegklaaGreatPYR
namespace Go.Proofs.YtdjeacigeegklaaGreat
set_option linter.all false
open Go
theorem ael(t:aa)(n:Int):(vt t n).1.List.length≤1000:=by
 unfold vt
 by_cases h:fC t=0
 ·have:=acQ (gE.1 h)
  rw[if_pos h]
  cases !lX n
  ·by_cases h2:n<((jk t).length:Int)
   ·simp[h2]
   ·simp only[h2,if_false,cond_false,uh];omega
  ·simp
 ·simp[h]
theorem agV:lV=some true:=by
 have key:lV=(bnd (mE) λ(ai:aa)=>bnd (mM ai (16:Int)) λ(aK:aF×Int)=>bnd (s8 aK.1 (oZ.mk (1:Int) ([(bU.mk (1:Int) (2:Int)),(bU.mk (2:Int) (3:Int))]:List bU)) ([(2:Int),(3:Int)]:List Int)) λ(aV:Int×Int)=>bnd (mE) λ(bq:aa)=>bnd (jH aK.1 bq (1:Int) (aH.mk (2:Int) (0:Int) (0:Int) (16:Int) (9:Int) (0:Int) (0:Int) (0:Int) aV.1 (⟨#[]⟩:ByteArray)) ([(2:Int)]:List Int)) λ(aT:cg×Int)=>(bif decide (aT.2=(0:Int))then(bif decide ((aT.1.bz.length:Int)=(2:Int))then bnd (elO aT.1.bz (0:Int)) λ(e_1:bh)=>(bif decide (e_1.To=(4:Int))then bnd (jd e_1.Frame.dZ ([(3:Int)]:List Int)) λ(cu:Bool)=>(bif cu then bnd (elO aT.1.bz (1:Int)) λ(e_2:bh)=>bnd (jd e_2.Frame.dZ ([(3:Int),(2:Int)]:List Int)) λ(bA:Bool)=>(bif bA then some (decide (aT.1.gw=(0:Int)))else some false)else some false)else some false)else some false)else some false)):=by
  unfold lV
  congr 1;funext v1
  rw[acR,aN,aN]
  congr 1;funext v3
  congr 1;funext v4
  rw[uT _ _ _ _ _ (ael _ _),uU _ _ _ _ _ (ael _ _)]
 exact key.trans (by kernel_rfl)
structure Ep(t:aa)(e:aF):Prop where
 f:Ef t e
 p:∀a∈e.List,a.Kind≠2
theorem Ep.pl{t:aa}{e:aF}(h:Ep t e):plB e=true:=vF.2 ⟨h.f.v,h.p⟩
variable {t:aX}
theorem agb{g:aa}(h:dO t)(hv:Vt g)(hn:1≤g.ah.length):Ok (pE t g) (λq=>Ep g q.1∧dO q.2):=by
 unfold pE
 refine Ok.bnd (acS h hv hn) λq hq=>?_
 obtain⟨e,t1⟩:=q
 obtain⟨he,ht⟩:=hq
 have he:Ef g e:=he
 have hs:=he.v.small
 dsimp only
 refine Eq.subst (motive:=λz=>Ok z _) (jW (K:=λ(m_1:(List az))=>some ((aF.mk e.Length m_1),t1)) (λa:az=>!decide (a.Kind=2)) (λa:az=>a) e.List 0 [] (λj x Z s hx hs=>?_) (by simp;omega)).symm ?_
 ·unfold jn
  cases decide (x.Kind=2)
  ·simp only[Bool.not_false,cond_true,lW hs,aN]
  ·rfl
 ·refine Ok.s ⟨?_,ht⟩
  rw[List.nil_append,List.map_id']
  have hm:∀a,a∈e.List.filter (λa:az=>!decide (a.Kind=2))↔a∈e.List∧a.Kind≠2:=λa=>by rw[List.mem_filter];simp
  have hv:=he.v
  refine⟨⟨⟨hv.len,λa ha=>hv.rng a ((hm a).1 ha).1,λa ha=>hv.kind a ((hm a).1 ha).1,λa ha=>hv.ahO a ((hm a).1 ha).1,hv.asc.sublist List.filter_sublist,hv.dup.sublist List.filter_sublist⟩,λa ha=>he.ok a ((hm a).1 ha).1⟩,λa ha=>((hm a).1 ha).2⟩
def One(g:aa)(f:aO):Prop:=(∃l∈g.Links,f.ah=[]∧(f.Links=[bU.mk l.A l.B]∨f.Links=[bU.mk l.B l.A]))∨(∃r∈ids g,f.Links=[]∧f.ah=[r])
theorem One.len{g:aa}{f:aO}(h:One g f):f.Links.length≤1∧f.ah.length≤1:=by
 rcases h with⟨l,_,h1,h2|h2⟩|⟨r,_,h1,h2⟩<;>rw[h1,h2]<;>simp
theorem uX{g:aa}(h:dO t)(hr:1≤g.ah.length∧g.ah.length≤1000)(hl:g.Links.length≤1000):Ok (jI t g) (λq=>One g q.1∧dO q.2):=by
 unfold jI
 refine Ok.jn (λsg:Bool×List Int×Int=>(sg.1=true→0<g.Links.length)∧dO (aX.mk sg.2.1 sg.2.2)) (λs hs=>?_) λJ hJ=>?_
 ·obtain⟨b,L,A⟩:=s
  obtain⟨h1,h2⟩:=hs
  dsimp only
  refine Ok.cs (λhb=>?_) λ_=>?_
  ·have hp:=h1 hb
   refine Ok.bnd (f_n h2 (by omega)) λk hk=>Ok.bnd (jJ hk.1.1 (hk.1.2.1 (by omega))) λl hl=>Ok.bnd (f_n hk.2 (by omega)) λc hc=>Ok.cs (λ_=>Ok.s ⟨.inl ⟨l,hl.1,rfl,.inl rfl⟩,hc.2⟩) λ_=>Ok.s ⟨.inl ⟨l,hl.1,rfl,.inr rfl⟩,hc.2⟩
  ·refine Ok.bnd (f_n h2 (by omega)) λk hk=>Ok.bnd (jJ hk.1.1 (hk.1.2.1 (by omega))) λr hr=>Ok.s ⟨.inr ⟨r.ID,List.mem_map.2 ⟨r,hr.1,rfl⟩,rfl,rfl⟩,hk.2⟩
 ·refine Ok.cs (λhc=>?_) λ_=>hJ _ ⟨(λhb=>(by cases hb)),h⟩
  have hc:0<g.Links.length:=by simpa using hc
  exact Ok.bnd (f_n h (by omega)) λk hk=>hJ _ ⟨λ_=>hc,hk.2⟩
theorem ai9{e:aF}(hE:Ve e)(h:dO t){γ:Type}{Q:γ→Prop}{K:Int×List Int×Int→Option γ}(hK:∀m L A,(∀i:Nat,tbi m i=true→(i:Int)<e.Length)→dO (aX.mk L A)→Ok (K (m,L,A)) Q):
  Ok (bJ e.List 0 (λ(j1:Int) (e1:az) (Z1:(Int×(List Int)×Int)→Option γ) (sg:Int×(List Int)×Int)=>match sg with|(m_1,m_2,m_3)=>jn (λ(sg:(List Int)×Int×Int)=>match sg with|(m_4,m_5,m_6)=>Z1 (m_6,m_4,m_5)) λJ1=>bnd (bB (aX.mk m_2 m_3) (3:Int)) λ(bq:Int×aX)=>bif decide ((0:Int)<bq.1)then chk (decide (0≤IntKind.wrap .u64 e1.Bit))<|J1 (bq.2.L,bq.2.At,aU .or .u64 m_1 (IntKind.wrap .u64 ((1:Int)*2 ^ min (IntKind.wrap .u64 e1.Bit).toNat 64)))else J1 (bq.2.L,bq.2.At,m_1)) K ((0:Int),t.L,t.At)) Q:=by
 refine Ok.y5 (L:=e.List) (λp (sg:Int×List Int×Int)=>(∀i:Nat,tbi sg.1 i=true→(i:Int)<e.Length)∧dO (aX.mk sg.2.1 sg.2.2)) (λp x rest s Z hL hI hZ=>?_) _ ⟨λi hi=>(by rw[qA]at hi;cases hi),h⟩ (λs hs=>?_)
 ·obtain⟨m,L,A⟩:=s
  obtain⟨i1,i2⟩:=hI
  have hx:x∈e.List:=by rw[hL];simp
  have hxb:=hE.bit hx
  have hxr:=hE.rng x hx
  unfold jn
  dsimp only
  refine Ok.bnd (f_n i2 (by omega)) λu hu=>Ok.cs (λ_=>?_) λ_=>hZ _ ⟨i1,hu.2⟩
  have ew:IntKind.wrap .u64 x.Bit=x.Bit:=wrap_u64 hxb.1 (by omega)
  rw[ew]
  refine Ok.chk (by simp;omega) (hZ _ ⟨λi hi=>?_,hu.2⟩)
  rw[za hxb.1 hxb.2,tbo,ue x.Bit.toNat i (by omega),Bool.or_eq_true,decide_eq_true_eq]at hi
  rcases hi with hi|hi
  ·exact i1 i hi
  ·omega
 ·obtain⟨m,L,A⟩:=s
  exact hK m L A hs.1 hs.2
end Go.Proofs.YtdjeacigeegklaaGreat
