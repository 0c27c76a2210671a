/- Plain: what the later abd tape makes: yZ, ad4, lists, sS. No condition but bK bn stand in each. -/
import Derived.Test.YtdjeacigeegklaaGreatPYD
namespace Go.Proofs.YtdjeacigeegklaaGreat
set_option linter.all false
open Go
structure Vn(g:aa)(most:Int):Prop where
 v:Vt g
 n:1≤g.aj.length∧(g.aj.length:Int)≤most
 c:∀r∈g.aj,r.aa3=true
 i:∀r∈g.aj,r.ID≤5*most
def tri(n:Nat):Nat→Nat
 |0=>0
 |a+1=>tri n a+(n-1-a)
theorem ajG:∀n,n≤9→∀a,a≤n→tri n a≤36:=by decide
structure Mx(n:Nat)(M:List (List Bool)):Prop where
 len:M.length=n
 row:∀r∈M,r.length=n
 up:∀(a b:Nat) (r:List Bool),M[a]?=some r→r[b]?=some true→a<b
theorem Mx.set{n:Nat}{M:List (List Bool)}(h:Mx n M){a b:Nat}{r:List Bool}(hr:M[a]?=some r)(hab:a<b)(hb:b<n):Mx n (M.set a (r.set b true)):=by
 obtain⟨h1,h2,h3⟩:=h
 have hm:r∈M:=List.mem_of_getElem? hr
 refine⟨by simpa using h1,λq hq=>?_,λi j q hq hj=>?_⟩
 ·rcases List.mem_or_eq_of_mem_set hq with hq|rfl
  ·exact h2 q hq
  ·simpa using h2 r hm
 ·rw[List.getElem?_set]at hq
  by_cases hi:a=i
  ·subst hi
   have hlt:a<M.length:=(List.getElem?_eq_some_iff.1 hr).1
   simp only[if_true,hlt,Option.some.injEq]at hq
   subst hq
   rw[List.getElem?_set]at hj
   by_cases hbj:b=j
   ·omega
   ·rw[if_neg hbj]at hj;exact h3 a j r hr hj
  ·rw[if_neg hi]at hq;exact h3 i j q hq hj
variable {M:List (List Bool)}{i:Int}
theorem ajH{n:Nat}(h:Mx n M)(h0:0≤i)(hi:i<n):Ok (elO M i) (λr=>M[i.toNat]?=some r∧r.length=n):=by
 refine(jM h0 (by rw[h.len];exact hi)).mono λr hr=>⟨hr.2,h.row r hr.1⟩
theorem agk{n:Nat}(h:Mx n M){j:Int}{γ:Type}{Q:γ→Prop}(k:List Bool→List Bool→Option γ)(h0:0≤i)(hij:i<j)(hj:j<n)(hk:∀r r2,Mx n (List.set M i.toNat r2)→Ok (k r r2) Q):
  Ok (bnd (elO M i) λe=>bnd (elO e j) λ_=>bnd (sY e j true) λl=>k e l) Q:=by
 refine Ok.bnd (ajH h h0 (by omega)) λr hr=>Ok.bnd (jM (by omega) (by rw[hr.2];omega)) λ_ _=>?_
 refine Ok.bnd (af1 (by omega) (by rw[hr.2];omega)) λl hl=>hk r l ?_
 rw[hl.1]
 exact h.set hr.1 (by omega) (by omega)
structure Lx(R:List aQ)(ls:List aW)(a b:Nat):Prop where
 at_:∀l∈ls,∃i j x y,i<j∧R[i]?=some x∧R[j]?=some y∧l.A=x.ID∧l.B=y.ID∧(i<a∨i=a∧j<b)
 ok:∀l∈ls,uL l=false
 asc:ls.Pairwise λx y=>ltL x y=true
 len:ls.length≤tri R.length a+(b-(a+1))
variable {x:aQ}
theorem ais{R:List aQ}(h:R.Pairwise λa b=>a.ID<b.ID){i j:Nat}{y:aQ}(hx:R[i]?=some x)(hy:R[j]?=some y)(hij:i<j):x.ID<y.ID:=by
 obtain⟨h1,rfl⟩:=List.getElem?_eq_some_iff.1 hx
 obtain⟨h2,rfl⟩:=List.getElem?_eq_some_iff.1 hy
 exact List.pairwise_iff_getElem.1 h i j h1 h2 hij
variable {a b:Nat}{ls:List aW}
theorem Lx.add{R:List aQ}(h:Lx R ls a b)(hR:R.Pairwise λa b=>a.ID<b.ID){l:aW}{y:aQ}(hab:a<b)(hx:R[a]?=some x)(hy:R[b]?=some y)(hA:l.A=x.ID)(hB:l.B=y.ID)(hl:uL l=false):Lx R (ls++[l]) a (b+1):=by
 refine⟨λm hm=>?_,λm hm=>?_,?_,?_⟩
 ·rcases List.mem_append.1 hm with hm|hm
  ·obtain⟨i,j,x,y,h1,h2,h3,h4,h5,h6⟩:=h.at_ m hm
   exact⟨i,j,x,y,h1,h2,h3,h4,h5,by omega⟩
  ·simp at hm;subst hm
   exact⟨a,b,x,y,hab,hx,hy,hA,hB,by omega⟩
 ·rcases List.mem_append.1 hm with hm|hm
  ·exact h.ok m hm
  ·simp at hm;subst hm;exact hl
 ·refine List.pairwise_append.2 ⟨h.asc,by simp,λm hm q hq=>?_⟩
  simp at hq;subst hq
  obtain⟨i,j,x',y',h1,h2,h3,h4,h5,h6⟩:=h.at_ m hm
  simp only[ltL,Bool.or_eq_true,Bool.and_eq_true,decide_eq_true_eq]
  rcases h6 with h6|⟨rfl,h6⟩
  ·have:=ais hR h2 hx h6;left;omega
  ·rw[hx]at h2;cases h2
   have:=ais hR h3 hy h6;right;omega
 ·have:=h.len;simp;omega
theorem Lx.skip{R:List aQ}(h:Lx R ls a b):Lx R ls a (b+1):=
 ⟨λm hm=>by
  obtain⟨i,j,x,y,h1,h2,h3,h4,h5,h6⟩:=h.at_ m hm
  exact⟨i,j,x,y,h1,h2,h3,h4,h5,by omega⟩,h.ok,h.asc,by have:=h.len;omega⟩
theorem Lx.next{R:List aQ}(h:Lx R ls a b)(hb:b=R.length):Lx R ls (a+1) 0:=
 ⟨λm hm=>by
  obtain⟨i,j,x,y,h1,h2,h3,h4,h5,h6⟩:=h.at_ m hm
  exact⟨i,j,x,y,h1,h2,h3,h4,h5,by omega⟩,h.ok,h.asc,by have:=h.len;simp only[tri];omega⟩
theorem agl{t:bL}{most:Int}(h:fV t)(hm:1≤most∧most≤9):Ok (ow t most) (λp=>Vn p.1 most∧fV p.2):=by
 unfold ow
 refine Ok.bnd (ad6 h) λp hp=>?_
 obtain⟨n,t1⟩:=p
 obtain⟨hn,ht⟩:=hp
 have hn:1≤n∧n≤most:=hn (by omega) (by omega) (by omega)
 have ht:fV t1:=ht
 refine Ok.chk (by simp;omega) ?_
 refine Ok.mM (λj (sg:Int×List aQ×List Int×Int)=>(0≤sg.1∧sg.1≤5*j)∧(sg.2.1.length:Int)=j∧sg.2.1.Pairwise (λa b=>a.ID<b.ID)∧(∀r∈sg.2.1,(1≤r.ID∧r.ID≤sg.1)∧r.aa3=true)∧fV (bL.mk sg.2.2.1 sg.2.2.2)) 0 n ?_ ?_ _ _ _ rfl (by omega) (by omega) ⟨by simp,by simp,by simp,by simp,ht⟩
 ·rintro j ⟨id,m,L,A⟩ Z h1 h2 ⟨⟨i0,i1⟩,i2,i3,i4,i5⟩ hZ
  simp only at i0 i1 i2 i3 i4
  refine Ok.bnd (adg i5 (by simp) (by simp)) λq hq=>?_
  obtain⟨hq,hq2⟩:=hq
  have hb:1≤q.1∧q.1≤5:=by
   simp only[List.mem_cons,List.not_mem_nil,or_false]at hq;omega
  rw[iA (by omega) (by omega)]
  refine Ok.bnd (tv (by simp;omega)) λm2 q2=>hZ _ ⟨⟨by simp only;omega,by simp only;omega⟩,?_,?_,?_,hq2⟩
  ·have:=q2.2;simp at this ⊢;omega
  ·simp only[q2.1]
   refine List.pairwise_append.2 ⟨i3,by simp,λa ha b hb2=>?_⟩
   simp at hb2;subst hb2
   have:=(i4 a ha).1;simp only;omega
  ·simp only[q2.1]
   intro r hr
   rcases List.mem_append.1 hr with hr|hr
   ·have:=i4 r hr;exact⟨⟨this.1.1,by have:=this.1.2;omega⟩,this.2⟩
   ·simp at hr;subst hr;exact⟨⟨by simp only;omega,by simp only;omega⟩,rfl⟩
 rintro j ⟨id,R,L,A⟩ h1 h2 ⟨⟨i0,i1⟩,i2,i3,i4,i5⟩
 have hj:j=n:=h2 (by omega)
 subst hj
 simp only at i0 i1 i2 i3 i4
 have hN:R.length=j.toNat:=by omega
 refine Ok.chk (by simp;omega) (Ok.chk (by simp;omega) ?_)
 refine Ok.mM (λi (M:List (List Bool))=>M.length=j.toNat∧∀(k:Nat),(k:Int)<i→M[k]?=some (List.replicate j.toNat false)) 0 j ?_ ?_ _ _ _ (by simp;omega) (by omega) (by omega) ⟨by simp,λk hk=>by omega⟩
 ·rintro i M Z q1 q2 ⟨e1,e2⟩ hZ
  refine Ok.chk (by simp;omega) (Ok.bnd (jM q1 (by omega)) λ_ _=>hZ _ ⟨by simpa using e1,λk hk=>?_⟩)
  rw[List.getElem?_set]
  by_cases hki:i.toNat=k
  ·rw[if_pos hki,if_pos (by omega)]
  ·rw[if_neg hki];exact e2 k (by omega)
 rintro i M q1 q2 ⟨e1,e2⟩
 have hi:i=j:=q2 (by omega)
 subst hi
 have hM:Mx i.toNat M:=by
  have hall:∀(a:Nat) r,M[a]?=some r→r=List.replicate i.toNat false:=λa r hr=>by
   have hlt:a<M.length:=(List.getElem?_eq_some_iff.1 hr).1
   rw[e2 a (by omega)]at hr;exact(Option.some.inj hr).symm
  refine⟨e1,λr hr=>?_,λa b r hr hb=>?_⟩
  ·obtain⟨a,ha⟩:=List.getElem?_of_mem hr
   rw[hall a r ha];simp
  ·rw[hall a r hr]at hb
   have:=List.mem_of_getElem? hb
   simp at this
 clear e1 e2
 refine Ok.chk (by simp;omega) ?_
 refine Ok.mM (λk (sg:List Int×Int×List (List Bool))=>fV (bL.mk sg.1 sg.2.1)∧Mx i.toNat sg.2.2) 1 i ?_ ?_ _ _ _ rfl (by omega) (by omega) ⟨i5,hM⟩
 ·rintro k ⟨L1,A1,M1⟩ Z k1 k2 ⟨e1,e2⟩ hZ
  refine Ok.jn (λsg:List (List Bool)×List Int×Int=>fV (bL.mk sg.2.1 sg.2.2)∧Mx i.toNat sg.1) (λs hs=>hZ _ hs) λJ hJ=>?_
  refine Ok.bnd (f_n e1 (by omega)) λv hv=>Ok.cs (λ_=>?_) λ_=>hJ _ ⟨hv.2,e2⟩
  refine Ok.bnd (f_n hv.2 (by omega)) λu hu=>?_
  exact agk e2 (λ_ l=>J (List.set M1 u.1.toNat l,u.2.L,u.2.At)) hu.1.1 (hu.1.2.1 (by omega)) (by omega) λr r2 hr2=>hJ _ ⟨hu.2,hr2⟩
 rintro k ⟨L1,A1,M1⟩ k1 k2 ⟨e1,e2⟩
 refine Ok.bnd (f_n e1 (ajC _).1) λv hv=>?_
 rw[iA (n:=i+2) (by omega) (by omega)]at hv
 have hv1:=hv.1.2.1 (by omega)
 refine Ok.whl (λsg:Int×List Int×Int×List (List Bool)=>(0≤sg.1∧sg.1≤11)∧fV (bL.mk sg.2.1 sg.2.2.1)∧Mx i.toNat sg.2.2.2) (λsg=>sg.1.toNat) ⟨⟨hv.1.1,by simp only;omega⟩,hv.2,e2⟩ (by simp only;omega) ?_
 rintro⟨c,L2,A2,M2⟩ Z ⟨⟨c0,c1⟩,e3,e4⟩ hZ
 simp only at c0 c1
 refine Ok.cs (λhc=>?_) λhc=>?_
 ·have hc:0<c:=by simpa using hc
  refine Ok.jn (λsg:List (List Bool)×List Int×Int=>fV (bL.mk sg.2.1 sg.2.2)∧Mx i.toNat sg.1) (λs hs=>?_) λJ hJ=>?_
  ·rw[iA (n:=c-1) (by omega) (by omega)]
   exact hZ _ ⟨⟨by simp only;omega,by simp only;omega⟩,hs.1,hs.2⟩ (by simp only;omega)
  ·refine Ok.bnd (f_n e3 (by omega)) λa ha=>Ok.bnd (f_n ha.2 (by omega)) λb hb=>?_
   have ha1:=ha.1.2.1 (by omega);have hb1:=hb.1.2.1 (by omega);have ha0:=ha.1.1;have hb0:=hb.1.1
   refine Ok.cs (λhne=>?_) λ_=>hJ _ ⟨hb.2,e4⟩
   have hne:a.1≠b.1:=by simpa using hne
   refine agk e4 (λ_ l=>J (List.set M2 _ l,b.2.L,b.2.At)) (by split<;>omega) (by split<;>split<;>omega) (by split<;>omega) λr r2 hr2=>hJ _ ⟨hb.2,hr2⟩
 clear hZ e2 hM hv hv1 e1
 refine Ok.bnd (f_n e3 (by omega)) λw hw=>?_
 have hML:M2.length=i.toNat:=e4.len
 refine Ok.chk (by simp;omega) ?_
 refine Ok.mM (λa (sg:List aW×List Int×Int)=>Lx R sg.1 a.toNat 0∧fV (bL.mk sg.2.1 sg.2.2)) 0 i ?_ ?_ _ _ _ (by rw[hML];omega) (by omega) (by omega) ⟨⟨by simp,by simp,by simp,by simp⟩,hw.2⟩
 ·rintro a ⟨ls,L3,A3⟩ Z a0 a1 ⟨e5,e6⟩ hZ
  refine Ok.chk (by simp;omega) ?_
  refine Ok.mM (λb (sg:List aW×List Int×Int)=>Lx R sg.1 a.toNat b.toNat∧fV (bL.mk sg.2.1 sg.2.2)) 0 i ?_ ?_ _ _ _ (by rw[hML];omega) (by omega) (by omega) ⟨e5,e6⟩
  ·rintro b ⟨ls,L4,A4⟩ Z2 b0 b1 ⟨e7,e8⟩ hZ2
   have e7:Lx R ls a.toNat b.toNat:=e7
   have e8:fV (bL.mk L4 A4):=e8
   have hsk:Lx R ls a.toNat (b+1).toNat:=by rw[show(b+1).toNat=b.toNat+1 by omega];exact e7.skip
   refine Ok.jn (λsg:List Int×Int×List aW=>fV (bL.mk sg.1 sg.2.1)∧Lx R sg.2.2 a.toNat (b+1).toNat) (λs hs=>hZ2 _ ⟨hs.2,hs.1⟩) λJ3 hJ3=>?_
   refine Ok.bnd (ajH e4 a0 (by omega)) λrow hrow=>Ok.bnd (jM b0 (by rw[hrow.2];omega)) λc hc=>?_
   cases c with
   |false=>exact hJ3 _ ⟨e8,hsk⟩
   |true=>
    have hab:a.toNat<b.toNat:=e4.up _ _ _ hrow.1 hc.2
    simp only[Bool.not_true,cond_false]
    refine Ok.bnd (jM a0 (by omega)) λx hx=>Ok.bnd (jM b0 (by omega)) λy hy=>Ok.bnd (adg e8 (by simp) (by simp)) λcp hcp=>?_
    have hcap:0≤cp.1∧cp.1≤1000:=by
     have:=hcp.1;simp only[List.mem_cons,List.not_mem_nil,or_false]at this;omega
    have hlen:ls.length≤36+9:=by
     have:=e7.len;have:=ajG R.length (by omega) a.toNat (by omega);omega
    refine Ok.jn (λsg:List Int×Int×Int×Int=>fV (bL.mk sg.1 sg.2.1)∧(1≤sg.2.2.1∧sg.2.2.1≤1000)∧1≤sg.2.2.2∧sg.2.2.2≤1000) (λs hs=>?_) λJ4 hJ4=>?_
    ·obtain⟨L5,A5,ca,cb⟩:=s
     obtain⟨s1,s2,s3⟩:=hs
     simp only at s2 s3
     refine Ok.bnd (tv (by simp;omega)) λls2 q2=>hJ3 _ ⟨s1,?_⟩
     rw[q2.1,show(b+1).toNat=b.toNat+1 by omega]
     refine e7.add i3 hab hx.2 hy.2 rfl rfl ?_
     simp only[uL,w9]
     simp;omega
    ·refine Ok.cs (λ_=>?_) λ_=>hJ4 _ ⟨hcp.2,by simp only;omega,by simp only;omega⟩
     refine Ok.bnd (ad6 hcp.2) λr1 hr1=>Ok.bnd (adg hr1.2 (by simp) (by simp)) λp1 hp1=>Ok.bnd (ad6 hp1.2) λr2 hr2=>Ok.bnd (adg hr2.2 (by simp) (by simp)) λp2 hp2=>hJ4 _ ⟨hp2.2,?_,?_⟩
     ·have h1:=hr1.1 (by omega) (by omega) (by omega);have h2:=hp1.1
      simp only[List.mem_cons,List.not_mem_nil,or_false]at h2 ⊢;omega
     ·have h1:=hr1.1 (by omega) (by omega) (by omega);have h2:=hp1.1;have h3:=hr2.1 (by omega) (by omega) (by omega);have h4:=hp2.1
      simp only[List.mem_cons,List.not_mem_nil,or_false]at h2 h4 ⊢;omega
  ·rintro b ⟨ls,L4,A4⟩ b0 b1 ⟨e7,e8⟩
   have hb:b=i:=b1 (by omega)
   subst hb
   refine hZ _ ⟨?_,e8⟩
   rw[show(a+1).toNat=a.toNat+1 by omega]
   exact e7.next (by omega)
 ·rintro a ⟨ls,L3,A3⟩ a0 a1 ⟨e5,e6⟩
  have ha:a=i:=a1 (by omega)
  subst ha
  have e5:Lx R ls a.toNat 0:=e5
  have hlen:ls.length≤36:=by
   have:=e5.len;have:=ajG R.length (by omega) a.toNat (by omega);omega
  refine Ok.s ⟨⟨⟨?_,?_,λr hr=>?_,i3,e5.ok,λl hl=>?_,λl hl=>?_,e5.asc⟩,⟨?_,?_⟩,λr hr=>(i4 r hr).2,λr hr=>?_⟩,e6⟩
  ·show R.length≤24;omega
  ·show ls.length≤60;omega
  ·have:=(i4 r hr).1;omega
  ·obtain⟨i,j,x,y,q1,q2,q3,q4,q5,_⟩:=e5.at_ l hl
   exact⟨wz.2 ⟨x,List.mem_of_getElem? q2,q4.symm⟩,wz.2 ⟨y,List.mem_of_getElem? q3,q5.symm⟩⟩
  ·obtain⟨i,j,x,y,q1,q2,q3,q4,q5,_⟩:=e5.at_ l hl
   have:=ais i3 q2 q3 q1;omega
  ·show 1≤R.length;omega
  ·show(R.length:Int)≤most;omega
  ·have:=(i4 r hr).1;omega
end Go.Proofs.YtdjeacigeegklaaGreat
