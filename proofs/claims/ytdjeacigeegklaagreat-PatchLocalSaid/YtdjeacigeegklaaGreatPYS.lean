/- Plain: what the laws of aar read from the tape. No condition but bB aX stand in each. -/
import Derived.Test.YtdjeacigeegklaaGreatPYR
import Derived.Test.YtdjeacigeegklaaGreatPYH
namespace Go.Proofs.YtdjeacigeegklaaGreat
set_option linter.all false
open Go
theorem abF(t:aa)(n:Int):(sC t n).1.List.length≤1000:=by
 unfold sC
 by_cases h:fS t=0
 ·have:=aao (jE.1 h)
  rw[if_pos h]
  cases !jj n
  ·by_cases h2:n<((gP t).length:Int)
   ·simp[h2]
   ·simp only[h2,if_false,cond_false,qC];omega
  ·simp
 ·simp[h]
theorem ap5:kK=some true:=by
 have key:kK=(bnd (jT) λ(ai:aa)=>bnd (jZ ai (16:Int)) λ(aL:aK×Int)=>bnd (pR aL.1 (mm.mk (1:Int) ([(cw.mk (1:Int) (2:Int)),(cw.mk (2:Int) (3:Int))]:List cw)) ([(2:Int),(3:Int)]:List Int)) λ(aV:Int×Int)=>bnd (jT) λ(bz:aa)=>bnd (pW aL.1 bz (1:Int) (aT.mk (2:Int) (0:Int) (0:Int) (16:Int) (9:Int) (0:Int) (0:Int) (0:Int) aV.1 (⟨#[]⟩:ByteArray)) ([(2:Int)]:List Int)) λ(cq:bQ×Int)=>(bif decide (cq.2=(0:Int))then(bif decide ((cq.1.bu.length:Int)=(2:Int))then bnd (elO cq.1.bu (0:Int)) λ(e_1:bp)=>(bif decide (e_1.To=(4:Int))then bnd (gK e_1.Frame.eF ([(3:Int)]:List Int)) λ(cH:Bool)=>(bif cH then bnd (elO cq.1.bu (1:Int)) λ(e_2:bp)=>bnd (gK e_2.Frame.eF ([(3:Int),(2:Int)]:List Int)) λ(bZ:Bool)=>(bif bZ then some (decide (cq.1.lQ=(0:Int)))else some false)else some false)else some false)else some false)else some false)):=by
  unfold kK
  congr 1;funext v1
  rw[aap,aR,aR]
  congr 1;funext v3
  congr 1;funext v4
  rw[wu _ _ _ _ _ (abF _ _),abI _ _ _ _ _ (abF _ _)]
 exact key.trans (by kernel_rfl)
structure Ep(t:aa)(e:aK):Prop where
 f:Ef t e
 p:∀a∈e.List,a.Kind≠2
theorem Ep.pl{t:aa}{e:aK}(h:Ep t e):plB e=true:=ad5.2 ⟨h.f.v,h.p⟩
theorem adv{t:aZ}{g:aa}(h:dz t)(hv:Vt g)(hn:1≤g.aq.length):Ok (mI t g) (λq=>Ep g q.1∧dz q.2):=by
 unfold mI
 refine Ok.bnd (afb h hv hn) λq hq=>?_
 obtain⟨e,t1⟩:=q
 obtain⟨he,ht⟩:=hq
 have he:Ef g e:=he
 have hs:=he.v.small
 dsimp only
 refine Eq.subst (motive:=λz=>Ok z _) (jP (K:=λ(m_1:(List aj))=>some ((aK.mk e.Length m_1),t1)) (λa:aj=>!decide (a.Kind=2)) (λa:aj=>a) e.List 0 [] (λj x Z s hx hs=>?_) (by simp;omega)).symm ?_
 ·unfold jn
  cases decide (x.Kind=2)
  ·simp only[Bool.not_false,cond_true,kH hs,aR]
  ·rfl
 ·refine Ok.s ⟨?_,ht⟩
  rw[List.nil_append,List.map_id']
  have hm:∀a,a∈e.List.filter (λa:aj=>!decide (a.Kind=2))↔a∈e.List∧a.Kind≠2:=λa=>by rw[List.mem_filter];simp
  have hv:=he.v
  refine⟨⟨⟨hv.len,λa ha=>hv.rng a ((hm a).1 ha).1,λa ha=>hv.kind a ((hm a).1 ha).1,λa ha=>hv.ae7 a ((hm a).1 ha).1,hv.asc.sublist List.filter_sublist,hv.dup.sublist List.filter_sublist⟩,λa ha=>he.ok a ((hm a).1 ha).1⟩,λa ha=>((hm a).1 ha).2⟩
def One(g:aa)(f:dO):Prop:=(∃l∈g.Links,f.aq=[]∧(f.Links=[cw.mk l.A l.B]∨f.Links=[cw.mk l.B l.A]))∨(∃r∈ids g,f.Links=[]∧f.aq=[r])
theorem One.len{g:aa}{f:dO}(h:One g f):f.Links.length≤1∧f.aq.length≤1:=by
 rcases h with⟨l,_,h1,h2|h2⟩|⟨r,_,h1,h2⟩<;>rw[h1,h2]<;>simp
theorem akn(c y:bp):Ok (fM (bQ.mk 0 0 [c]) (bQ.mk 0 0 [y])) (λ_=>True):=by
 unfold fM
 refine Ok.cs (λ_=>Ok.s trivial) λ_=>Ok.forM (λ_ _=>True) ?_ _ trivial λ_ _=>Ok.s trivial
 intro j x s Z hj hx _ hZ
 have hj:j<1:=by simpa using hj
 refine Ok.bnd (iJ (by omega) (by simp only[List.length_singleton];omega)) λe _=>Ok.cs (λ_=>Ok.s trivial) λhc=>?_
 have hlen:x.Frame.eF.length=e.Frame.eF.length:=by
  simp only[Bool.or_eq_false_iff,Bool.not_eq_false',decide_eq_true_eq]at hc
  have:=hc.2.2;omega
 refine Ok.forM (λ_ _=>True) ?_ _ trivial λ_ _=>hZ _ trivial
 intro i z s Z2 hi hz _ hZ2
 exact Ok.bnd (iJ (by omega) (by omega)) λ_ _=>Ok.cs (λ_=>Ok.s trivial) λ_=>hZ2 _ trivial
theorem agr{t:aZ}{e:aK}(hE:Ve e)(h:dz t){γ:Type}{Q:γ→Prop}{K:Int×List Int×Int→Option γ}(hK:∀m L A,(∀i:Nat,tbi m i=true→(i:Int)<e.Length)→dz (aZ.mk L A)→Ok (K (m,L,A)) Q):
  Ok (bJ e.List 0 (λ(j1:Int) (e1:aj) (Z1:(Int×(List Int)×Int)→Option γ) (sg:Int×(List Int)×Int)=>match sg with|(m_1,m_2,m_3)=>jn (λ(sg:(List Int)×Int×Int)=>match sg with|(m_4,m_5,m_6)=>Z1 (m_6,m_4,m_5)) λJ1=>bnd (bG (aZ.mk m_2 m_3) (3:Int)) λ(bz:Int×aZ)=>bif decide ((0:Int)<bz.1)then chk (decide (0≤IntKind.wrap .u64 e1.Bit))<|J1 (bz.2.L,bz.2.At,aS .or .u64 m_1 (IntKind.wrap .u64 ((1:Int)*2 ^ min (IntKind.wrap .u64 e1.Bit).toNat 64)))else J1 (bz.2.L,bz.2.At,m_1)) K ((0:Int),t.L,t.At)) Q:=by
 refine Ok.uE (L:=e.List) (λp (sg:Int×List Int×Int)=>(∀i:Nat,tbi sg.1 i=true→(i:Int)<e.Length)∧dz (aZ.mk sg.2.1 sg.2.2)) (λp x rest s Z hL hI hZ=>?_) _ ⟨λi hi=>(by rw[vg]at hi;cases hi),h⟩ (λs hs=>?_)
 ·obtain⟨m,L,A⟩:=s
  obtain⟨i1,i2⟩:=hI
  have hx:x∈e.List:=by rw[hL];simp
  have hxb:=hE.bit hx
  have hxr:=hE.rng x hx
  unfold jn
  dsimp only
  refine Ok.bnd (f_n i2 (by omega)) λu hu=>Ok.cs (λ_=>?_) λ_=>hZ _ ⟨i1,hu.2⟩
  have ew:IntKind.wrap .u64 x.Bit=x.Bit:=wrap_u64 hxb.1 (by omega)
  rw[ew]
  refine Ok.chk (by simp;omega) (hZ _ ⟨λi hi=>?_,hu.2⟩)
  rw[zn hxb.1 hxb.2,tbo,aaU x.Bit.toNat i (by omega),Bool.or_eq_true,decide_eq_true_eq]at hi
  rcases hi with hi|hi
  ·exact i1 i hi
  ·omega
 ·obtain⟨m,L,A⟩:=s
  exact hK m L A hs.1 hs.2
theorem ako{e:aK}(hE:Ve e){m n:Int}(hm:∀i:Nat,tbi m i=true→(i:Int)<e.Length)(hn:0≤n∧n≤63):Pk e (aT.mk 2 0 0 e.Length n 0 0 0 m (⟨#[]⟩:ByteArray)):=by
 refine⟨qH.2 ⟨by simp only;omega,by simp only;omega,by simp only;omega,xG.2 ⟨?_,hm⟩,hn,by simp only;omega,by simp only;omega,by simp only;omega,?_⟩,rfl,rfl⟩
 ·have:=hE.len;simpa [jj]using this
 ·show((0:Nat):Int)≤64;decide
end Go.Proofs.YtdjeacigeegklaaGreat
