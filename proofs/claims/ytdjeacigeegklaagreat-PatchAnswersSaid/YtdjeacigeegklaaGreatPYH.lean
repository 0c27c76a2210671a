/- Plain: the ady bx the later aaY tape makes fit alw rO. No condition but bO bx stand in each. -/
import Derived.Test.YtdjeacigeegklaaGreatPYG
namespace Go.Proofs.YtdjeacigeegklaaGreat
set_option linter.all false
open Go
def shA(c:Int)(a:az):az:=az.mk (a.Bit+c) a.br a.Kind a.To
variable {t:aa}
theorem EL.shift{m:List az}(h:EL t 0 m)(c:Nat):EL t c (m.map (shA (c:Int))):=by
 refine⟨λi a hi=>?_,λa ha=>?_,?_⟩
 ·rw[List.getElem?_map]at hi
  cases hm:m[i]? with
  |none=>rw[hm]at hi;cases hi
  |some b=>
   rw[hm]at hi;cases hi
   have:=h.bit i b hm
   simp only[shA];omega
 ·obtain⟨b,hb,rfl⟩:=List.mem_map.1 ha
  obtain⟨h1,h2,h3⟩:=h.ok b hb
  exact⟨h1,h2,h3⟩
 ·exact List.pairwise_map.2 (h.dup.imp λh=>h)
theorem apS(hv:Vt t){n:Int}(h:(vt t n).2=0):Ef t (vt t n).1∧vt t n=(aF.mk n (lY 0 (jk t)),0)∧((jk t).length:Int)≤n:=by
 unfold vt at *
 rw[if_pos (gE.2 hv)]at *
 cases hl:lX n
 ·rw[hl]at h;simp at h
 ·rw[hl]at h
  simp only[Bool.not_true,cond_false]at h ⊢
  by_cases hn:n<((jk t).length:Int)
  ·rw[if_pos hn]at h;simp at h
  ·rw[if_neg hn]
   refine⟨(apR hv).ef hv (by simpa [lX]using hl) (by rw[uh];omega),rfl,by omega⟩
theorem aao(hv:Vt t){l:bn}(hl:l∈t.Links){r q:Int}:fT r l=some q↔((l.A=r∧l.B=q)∨(l.B=r∧l.A=q)):=by
 unfold fT
 have:=hv.lt l hl
 by_cases h1:r=l.A
 ·subst h1;simp;omega
 ·by_cases h2:r=l.B
  ·subst h2;simp[h1];intro h;omega
  ·simp[h1,h2];omega
theorem acS{t:aX}{g:aa}(h:dO t)(hv:Vt g)(hn:1≤g.ah.length):Ok (oH t g) (λp=>Ef g p.1∧dO p.2):=by
 unfold oH
 have hnr:=hv.nr;have hnl:=hv.nl
 refine Ok.bnd (wM h (by simp) (by simp)) λq hq=>?_
 have hlen:q.1=8∨q.1=16∨q.1=32∨q.1=64:=by
  have:=hq.1;simp only[List.mem_cons,List.not_mem_nil,or_false]at this;omega
 rw[acR,aN]
 refine Ok.jn (λsg:Bool×List Int×Int=>dO (aX.mk sg.2.1 sg.2.2)∧(sg.1=true→(vt g 64).2=0)) (λs hs=>?_) λJ hJ=>?_
 rotate_left
 ·refine Ok.cs (λhc=>?_) λ_=>hJ _ ⟨hq.2,λh=>by cases h⟩
  exact Ok.bnd (f_n hq.2 (by omega)) λu hu=>hJ _ ⟨hu.2,λ_=>by simpa using hc⟩
 obtain⟨v,L,A⟩:=s
 obtain⟨ht,hf⟩:=hs
 refine Ok.cs (λhc=>Ok.s ⟨(apS hv (hf hc)).1,ht⟩) λ_=>?_
 refine Ok.y5 (L:=g.ah) (λp (sg:List az×List Int×Int)=>EL g 0 sg.1∧(∀a∈sg.1,∃r∈p,r.ID=a.br)∧sg.1.length≤100*p.length∧dO (aX.mk sg.2.1 sg.2.2)) (λp x rest s Z hL hI hZ=>?_) ([],L,A) ⟨EL.nil g 0,by simp,by simp,ht⟩ (λs hs=>?_)
 ·obtain⟨m,L1,A1⟩:=s
  obtain⟨i1,i2,i3,i4⟩:=hI
  simp only at i1 i2 i3 i4
  have hx:x∈g.ah:=by rw[hL];simp
  have hxi:x.ID∈ids g:=List.mem_map.2 ⟨x,hx,rfl⟩
  have hpl:p.length<24:=by
   have:g.ah.length=p.length+(rest.length+1):=by rw[hL];simp
   omega
  have hnp:∀r∈p,r.ID≠x.ID:=λr hr=>by
   have:=hv.asc;rw[hL]at this
   have:=(List.pairwise_append.1 this).2.2 r hr x (by simp);omega
  refine Ok.jn (λsg:List Int×Int×List az=>EL g 0 sg.2.2∧(∀a∈sg.2.2,∃r∈p++[x],r.ID=a.br)∧sg.2.2.length≤100*(p++[x]).length∧dO (aX.mk sg.1 sg.2.1)) (λs hs=>hZ _ hs) λJ2 hJ2=>?_
  refine Ok.jn (λsg:List Int×Int×List az=>EL g 0 sg.2.2∧(∀a∈sg.2.2,(∃r∈p,r.ID=a.br)∨a.br=x.ID∧a.Kind=3)∧sg.2.2.length≤100*p.length+1∧dO (aX.mk sg.1 sg.2.1)) (λs hs=>?_) λJ3 hJ3=>?_
  rotate_left
  ·refine Ok.bnd (f_n i4 (by omega)) λu hu=>Ok.cs (λ_=>?_) λ_=>hJ3 _ ⟨i1,λa ha=>.inl (i2 a ha),by simp only;omega,hu.2⟩
   refine Ok.bnd (th (by simp;omega)) λm2 q2=>hJ3 _ ⟨?_,λa ha=>?_,by rw[q2.1];simp;omega,hu.2⟩
   ·rw[q2.1]
    refine i1.add rfl ⟨hxi,hxi,.inl ⟨rfl,rfl⟩⟩ λa ha he=>?_
    obtain⟨r,hr,e⟩:=i2 a ha
    simp only[tgA,cO.mk.injEq]at he
    exact hnp r hr (by omega)
   ·simp only[q2.1]at ha
    rcases List.mem_append.1 ha with ha|ha
    ·exact .inl (i2 a ha)
    ·simp at ha;subst ha;exact .inr ⟨rfl,rfl⟩
  obtain⟨L2,A2,m1⟩:=s
  obtain⟨j1,j2,j3,j4⟩:=hs
  simp only at j1 j2 j3 j4
  refine Ok.y5 (L:=g.Links) (λq (sg:List az×List Int×Int)=>EL g 0 sg.1∧(∀a∈sg.1,(∃r∈p,r.ID=a.br)∨a.br=x.ID∧(a.Kind=3∨a.Kind=1∧a.To∈q.filterMap (fT x.ID)))∧sg.1.length≤100*p.length+1+q.length∧dO (aX.mk sg.2.1 sg.2.2)) (λq l axn s Z2 hL2 hI2 hZ2=>?_) (m1,L2,A2) ⟨j1,λa ha=>(j2 a ha).imp id λh=>⟨h.1,.inl h.2⟩,by simp;omega,j4⟩ (λs hs=>?_)
  ·obtain⟨m2,L3,A3⟩:=s
   obtain⟨k1,k2,k3,k4⟩:=hI2
   simp only at k1 k2 k3 k4
   have hl:l∈g.Links:=by rw[hL2];simp
   have hql:q.length<60:=by
    have:g.Links.length=q.length+(axn.length+1):=by rw[hL2];simp
    omega
   have hlt:=hv.lt l hl
   have hA:=gH.2 (hv.ends l hl).1
   have hB:=gH.2 (hv.ends l hl).2
   have hA1:=aeG hv hA;have hB1:=aeG hv hB
   have hmono:∀a:az,a.To∈q.filterMap (fT x.ID)→a.To∈(q++[l]).filterMap (fT x.ID):=λa ha=>by rw[List.filterMap_append];exact List.mem_append_left _ ha
   refine Ok.jn (λsg:List Int×Int×List az=>EL g 0 sg.2.2∧(∀a∈sg.2.2,(∃r∈p,r.ID=a.br)∨a.br=x.ID∧(a.Kind=3∨a.Kind=1∧a.To∈(q++[l]).filterMap (fT x.ID)))∧sg.2.2.length≤100*p.length+1+(q++[l]).length∧dO (aX.mk sg.1 sg.2.1)) (λs hs=>hZ2 _ hs) λJ4 hJ4=>?_
   have pass:∀L5 A5,dO (aX.mk L5 A5)→EL g 0 m2∧(∀a∈m2,(∃r∈p,r.ID=a.br)∨a.br=x.ID∧(a.Kind=3∨a.Kind=1∧a.To∈(q++[l]).filterMap (fT x.ID)))∧m2.length≤100*p.length+1+(q++[l]).length∧dO (aX.mk L5 A5):=λL5 A5 h5=>
    ⟨k1,λa ha=>(k2 a ha).imp id λh=>⟨h.1,h.2.imp id λh=>⟨h.1,hmono a h.2⟩⟩,by simp;omega,h5⟩
   have key:∀to_:Int,(to_≠0→fT x.ID l=some to_)→Ok (jn (λ(sg:Bool×List Int×Int)=>match sg with|(v_2,oD,oE)=>bif v_2 then bnd (dx m2 ([(az.mk (m2.length:Int) x.ID (1:Int) to_)]:List az)) λ(l_2:List az)=>J4 (oD,oE,l_2)else J4 (oD,oE,m2)) λJ7=>(bif !decide (to_=(0:Int))then bnd (bB (aX.mk L3 A3) (5:Int)) λ(aT:Int×aX)=>J7 (decide ((0:Int)<aT.1),aT.2.L,aT.2.At)else J7 (false,L3,A3))) (λp=>Ef g p.1∧dO p.2):=λto_ hto=>by
    refine Ok.jn (λsg:Bool×List Int×Int=>dO (aX.mk sg.2.1 sg.2.2)∧(sg.1=true→to_≠0)) (λs hs=>?_) λJ7 hJ7=>?_
    ·obtain⟨v,L5,A5⟩:=s
     refine Ok.cs (λhc=>?_) λ_=>hJ4 _ (pass _ _ hs.1)
     have ho:=hto (hs.2 hc)
     have afq:mm g x.ID to_=true:=kP.2 ⟨l,hl,by
      rcases(aao hv hl).1 ho with h|h
      ·exact .inl h
      ·exact .inr h⟩
     have hnew:to_∉q.filterMap (fT x.ID):=λhm=>by
      have hnd:=uq hv x.ID
      rw[hL2,List.filterMap_append,List.filterMap_cons_some ho]at hnd
      have:=(List.nodup_append.1 hnd).2.2 to_ hm to_ (by simp)
      exact this rfl
     refine Ok.bnd (th (by simp;omega)) λm3 q3=>hJ4 _ ⟨?_,λa ha=>?_,by rw[q3.1];simp;omega,hs.1⟩
     ·rw[q3.1]
      refine k1.add rfl ⟨hxi,ua hv afq,.inr (.inl ⟨rfl,afq⟩)⟩ λa ha he=>?_
      simp only[tgA,cO.mk.injEq]at he
      rcases k2 a ha with⟨r,hr,e⟩|⟨e1,e2|⟨e2,e3⟩⟩
      ·exact hnp r hr (by omega)
      ·omega
      ·rw[he.2.2]at e3;exact hnew e3
     ·simp only[q3.1]at ha
      rcases List.mem_append.1 ha with ha|ha
      ·exact(pass _ _ hs.1).2.1 a ha
      ·simp at ha;subst ha
       refine .inr ⟨rfl,.inr ⟨rfl,?_⟩⟩
       rw[List.filterMap_append,List.filterMap_cons_some ho];simp
    ·refine Ok.cs (λhc=>?_) λ_=>hJ7 _ ⟨k4,λh=>by cases h⟩
     exact Ok.bnd (f_n k4 (by omega)) λu hu=>hJ7 _ ⟨hu.2,λ_=>by simpa using hc⟩
   unfold jn at key ⊢
   by_cases c1:l.A=x.ID
   ·have c2:¬l.B=x.ID:=by omega
    simp only[c1,c2,decide_true,decide_false,cond_true,cond_false]
    exact key l.B λ_=>(aao hv hl).2 (.inl ⟨c1,rfl⟩)
   ·by_cases c2:l.B=x.ID
    ·simp only[c1,c2,decide_true,decide_false,cond_true,cond_false]
     exact key l.A λ_=>(aao hv hl).2 (.inr ⟨c2,rfl⟩)
    ·simp only[c1,c2,decide_false,cond_false]
     exact key 0 λh=>absurd rfl h
  ·obtain⟨m2,L3,A3⟩:=s
   obtain⟨k1,k2,k3,k4⟩:=hs
   simp only at k1 k2 k3 k4
   have up:∀a∈m2,∃r∈p++[x],r.ID=a.br:=λa ha=>by
    rcases k2 a ha with⟨r,hr,e⟩|⟨e1,_⟩
    ·exact⟨r,by simp[hr],e⟩
    ·exact⟨x,by simp,e1.symm⟩
   refine Ok.bnd (f_n k4 (by omega)) λu hu=>Ok.bnd (jJ hu.1.1 (hu.1.2.1 (by omega))) λy hy=>?_
   refine Ok.jn (λsg:Bool×List Int×Int=>dO (aX.mk sg.2.1 sg.2.2)∧(sg.1=true→y.ID≠x.ID)) (λs hs=>?_) λJ8 hJ8=>?_
   ·obtain⟨v,L5,A5⟩:=s
    refine Ok.cs (λhc=>?_) λ_=>hJ2 _ ⟨k1,up,by simp;omega,hs.1⟩
    have hne:=hs.2 hc
    refine Ok.bnd (th (by simp;omega)) λm3 q3=>hJ2 _ ⟨?_,λa ha=>?_,by rw[q3.1];simp;omega,hs.1⟩
    ·rw[q3.1]
     refine k1.add rfl ⟨hxi,List.mem_map.2 ⟨y,hy.1,rfl⟩,.inr (.inr ⟨rfl,hne⟩)⟩ λa ha he=>?_
     simp only[tgA,cO.mk.injEq]at he
     rcases k2 a ha with⟨r,hr,e⟩|⟨e1,e2|⟨e2,e3⟩⟩
     ·exact hnp r hr (by omega)
     ·omega
     ·omega
    ·simp only[q3.1]at ha
     rcases List.mem_append.1 ha with ha|ha
     ·exact up a ha
     ·simp at ha;subst ha;exact⟨x,by simp,rfl⟩
   ·refine Ok.cs (λhc=>?_) λ_=>hJ8 _ ⟨hu.2,λh=>by cases h⟩
    exact Ok.bnd (f_n hu.2 (by omega)) λw hw=>hJ8 _ ⟨hw.2,λ_=>by simpa using hc⟩
 ·obtain⟨m,L1,A1⟩:=s
  obtain⟨i1,i2,i3,i4⟩:=hs
  simp only at i1 i2 i3 i4
  refine Ok.bnd (acG ⟨by omega,by split<;>omega,by split<;>omega⟩) λc hc=>?_
  have hcE:EL g 0 c:=by rw[hc.1];simpa using i1.take
  have hcl:(c.length:Int)≤q.1:=by have:=hc.2;split at this<;>omega
  refine Ok.jn (λsg:List Int×Int×List az=>Ef g (aF.mk q.1 sg.2.2)∧dO (aX.mk sg.1 sg.2.1)) (λs hs=>Ok.s hs) λJ9 hJ9=>?_
  refine Ok.jn (λsg:Bool×List Int×Int=>dO (aX.mk sg.2.1 sg.2.2)) (λs hs=>?_) λJ10 ahD=>?_
  ·obtain⟨v,L5,A5⟩:=s
   refine Ok.cs (λ_=>?_) λ_=>hJ9 _ ⟨hcE.ef hv hlen (by simpa using hcl),hs⟩
   have esh:w64 (q.1-(c.length:Int))=((q.1.toNat-c.length:Nat):Int):=by rw[iM (by omega) (by omega)];omega
   refine Ok.y5 (L:=c) (λp (s:List az)=>s=p.map (shA ((q.1.toNat-c.length:Nat):Int))++c.drop p.length) (λp x rest s Z hL hI hZ=>?_) c (by simp) (λs hs2=>?_)
   ·subst hI
    have hd:c.drop p.length=x::rest:=by rw[hL];simp
    have hm:(p.map (shA ((q.1.toNat-c.length:Nat):Int))++c.drop p.length).length=c.length:=by
     rw[hd,hL];simp
    have e1:elO (p.map (shA ((q.1.toNat-c.length:Nat):Int))++c.drop p.length) (p.length:Int)=some x:=by
     rw[hd]
     have:=acE (p.map (shA ((q.1.toNat-c.length:Nat):Int))) x rest
     rwa [List.length_map]at this
    have hb:x.Bit=(p.length:Int):=by
     have:=hcE.bit p.length x (by rw[hL];simp)
     simpa using this
    have hpc:p.length<c.length:=by rw[hL];simp
    rw[e1,aN,hm,esh]
    refine Ok.bnd (acF (by omega) (by rw[hm];omega)) λm2 q2=>hZ _ ?_
    rw[q2.1,hd,iM (by omega) (by omega)]
    have e2:c.drop (p++[x]).length=rest:=by rw[hL];simp
    rw[e2]
    simp[shA,List.set_append]
   ·rw[List.drop_length,List.append_nil]at hs2
    subst hs2
    refine hJ9 _ ⟨(hcE.shift _).ef hv hlen (by simp;omega),hs⟩
  ·refine Ok.bnd (f_n i4 (by omega)) λu hu=>Ok.cs (λ_=>ahD _ hu.2) λ_=>ahD _ hu.2
end Go.Proofs.YtdjeacigeegklaaGreat
