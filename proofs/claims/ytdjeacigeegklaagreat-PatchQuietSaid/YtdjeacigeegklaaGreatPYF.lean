/- Plain: ad4, lists, trees bn the later abd tape makes. No condition but bK bn stand in each. -/
import Derived.Test.YtdjeacigeegklaaGreatPYE
namespace Go.Proofs.YtdjeacigeegklaaGreat
set_option linter.all false
open Go
def oZ:List aV→aV→List aV
 |[],x=>[x]
 |y::r,x=>if ltH y x then y::oZ r x else x::y::r
theorem nY:∀{l:List aV} {x y:aV},y∈oZ l x↔y=x∨y∈l
 |[],x,y=>by simp[oZ]
 |z::r,x,y=>by
  rw[oZ]
  split
  ·rw[List.mem_cons,nY,List.mem_cons]
   constructor
   ·rintro(h|h|h)<;>simp[h]
   ·rintro(h|h|h)<;>simp[h]
  ·simp
theorem aaB:∀(l:List aV) (x:aV),(oZ l x).Perm (x::l)
 |[],x=>by simp[oZ]
 |z::r,x=>by
  rw[oZ]
  split
  ·exact((aaB r x).cons z).trans (.swap x z r)
  ·exact .refl _
theorem ajI{a b:aV}(h:ltH a b=false)(hne:a≠b):ltH b a=true:=by
 cases a;cases b
 simp[ltH]at *
 omega
theorem ahq:∀{l:List aV} {x:aV},l.Pairwise (λa b=>ltH a b=true)→x∉l→(oZ l x).Pairwise (λa b=>ltH a b=true)
 |[],x,_,_=>by simp[oZ]
 |z::r,x,h,hx=>by
  rw[oZ]
  rw[List.pairwise_cons]at h
  simp only[List.mem_cons,not_or]at hx
  split
  ·rename_i hz
   rw[List.pairwise_cons]
   refine⟨λy hy=>?_,ahq h.2 hx.2⟩
   rcases nY.1 hy with rfl|hy
   ·exact hz
   ·exact h.1 y hy
  ·rename_i hz
   have hzx:ltH x z=true:=ajI (by simpa using hz) (Ne.symm hx.1)
   rw[List.pairwise_cons,List.pairwise_cons]
   refine⟨λy hy=>?_,h⟩
   rcases List.mem_cons.1 hy with rfl|hy
   ·exact hzx
   ·exact aeU _ _ _ hzx (h.1 y hy)
theorem ahr:∀(p r:List aV) (x:aV),(∀y∈p,ltH y x=true)→(∀y∈r.head?,ltH y x=false)→oZ (p++r) x=p++x::r
 |[],r,x,_,h=>by
  cases r with
  |nil=>simp[oZ]
  |cons y r=>have:=h y (by simp);simp only[List.nil_append,oZ,this];rfl
 |z::p,r,x,hp,h=>by
  have:=hp z (by simp)
  rw[List.cons_append,oZ,if_pos this,ahr p r x (λy hy=>hp y (by simp[hy])) h]
  rfl
theorem aqN(l:List aV)(x:aV)(hl:l.length≤100000):uz l x=some (oZ l x):=by
 unfold uz
 refine Ok.eq (Ok.whl (λk:Int=>0≤k∧k≤l.length∧∀y∈l.take k.toNat,ltH y x=true) (λk:Int=>((l.length:Int)-k).toNat) ⟨by omega,by omega,by simp⟩ (by omega) ?_)
 rintro k Z ⟨h0,h1,h2⟩ hZ
 refine Ok.jn (λv:Bool=>(v=true↔∃y∈(l.drop k.toNat).head?,ltH y x=true)) ?_ ?_
 ·intro v hv
  refine Ok.cs (λh=>?_) λh=>?_
  ·obtain⟨y,hy,hyx⟩:=hv.1 h
   have hlt:k.toNat<l.length:=by
    cases hd:l.drop k.toNat with
    |nil=>rw[hd]at hy;simp at hy
    |cons z r=>have:=congrArg List.length hd;simp at this;omega
   rw[iA (by omega) (by omega)]
   refine hZ _ ⟨by omega,by omega,λz hz=>?_⟩ (by omega)
   rw[show(k+1).toNat=k.toNat+1 by omega,List.take_succ]at hz
   rcases List.mem_append.1 hz with hz|hz
   ·exact h2 z hz
   ·rw[List.head?_drop]at hy
    have e:l[k.toNat]?=some z:=by simpa using hz
    have e2:l[k.toNat]?=some y:=hy
    rw[e]at e2;cases e2;exact hyx
  ·have hno:∀y∈(l.drop k.toNat).head?,ltH y x=false:=λy hy=>by
    cases hq:ltH y x
    ·rfl
    ·rw[hv.2 ⟨y,hy,hq⟩]at h;cases h
   have key:=ahr (l.take k.toNat) (l.drop k.toNat) x h2 hno
   rw[List.take_append_drop]at key
   refine Ok.bnd (aar ⟨by omega,by omega,by omega⟩) λl1 q1=>?_
   refine Ok.bnd (tv (by simp;omega)) λl2 q2=>?_
   refine Ok.bnd (aar ⟨by omega,by omega,by omega⟩) λl3 q3=>?_
   refine Ok.bnd (tv (by simp at q2 q3 q1 ⊢;omega)) λl4 q4=>Ok.s ?_
   rw[q4.1,q3.1,q2.1,q1.1,key]
   simp
 ·intro J hJ
  refine Ok.cs (λhc=>?_) λhc=>hJ _ ?_
  ·simp at hc
   refine Ok.bnd (jM h0 hc) λe he=>?_
   have hh:(l.drop k.toNat).head?=some e:=by rw[List.head?_drop,he.2]
   refine Ok.cs (λc1=>hJ _ ?_) λc1=>Ok.cs (λc2=>hJ _ ?_) λc2=>hJ _ ?_
   ·rw[hh];simp[ltH]at *;left;exact c1
   ·rw[hh];simp[ltH]at *;omega
   ·rw[hh];simp[ltH]at *;omega
  ·simp at hc
   rw[List.drop_of_length_le (by omega)];simp
variable {root:Int}
theorem Rch.mono{L L':List aV}(h:∀x∈L,x∈L'){y:Int}(hr:Rch root L y):Rch root L' y:=by
 induction hr with
 |root=>exact .root
 |step x hx _ ih=>exact .step x (h x hx) ih
variable {t:dY}{x:Int}
theorem Vr.reach(h:Vr t)(hx:x=t.dS∨∃h∈t.Links,h.To=x):Rch t.dS t.Links x:=by
 rcases hx with rfl|⟨y,hy,rfl⟩
 ·exact .root
 ·exact .step y hy (h.rch y hy)
theorem Vr.add(h:Vr t){x:aV}(hr:(1≤x.bx∧x.bx≤99)∧1≤x.To∧x.To≤99)(hf:x.bx=t.dS∨∃h∈t.Links,h.To=x.bx)(ht:¬(x.To=t.dS∨∃h∈t.Links,h.To=x.To)):Vr (dY.mk t.dS (oZ t.Links x)):=by
 rw[not_or]at ht
 have hx:x∉t.Links:=λhm=>ht.2 ⟨x,hm,rfl⟩
 have hsub:∀y∈t.Links,y∈oZ t.Links x:=λy hy=>nY.2 (.inr hy)
 refine⟨h.rt,λy hy=>?_,ahq h.asc hx,?_,λy hy=>?_,λy hy=>?_⟩
 ·rcases nY.1 hy with rfl|hy
  ·exact hr
  ·exact h.rng y hy
 ·refine((aaB t.Links x).pairwise_iff (λ{a b} (hab:a.To≠b.To)=>Ne.symm hab)).2 ?_
  rw[List.pairwise_cons]
  exact⟨λy hy e=>ht.2 ⟨y,hy,e.symm⟩,h.dup⟩
 ·rcases nY.1 hy with rfl|hy
  ·exact ht.1
  ·exact h.nrt y hy
 ·rcases nY.1 hy with rfl|hy
  ·exact(h.reach hf).mono hsub
  ·exact(h.rch y hy).mono hsub
structure Tn(g:aa)(root:Int)(t:dY):Prop where
 rt:t.dS=root
 len:t.Links.length≤200
 v:root∈ids g→Vr t
 no:root∉ids g→t.Links=[]
 adj:∀h∈t.Links,gP g h.bx h.To=true
theorem adl{g:aa}(hv:Vt g)(h:x∈ids g):1≤x∧x≤99:=by
 obtain⟨r,hr,rfl⟩:=List.mem_map.1 h
 exact hv.idr r hr
theorem al6{t:bL}{g:aa}(h:fV t)(hv:Vt g):Ok (th t g root) (λp=>Tn g root p.1∧fV p.2):=by
 unfold th
 have hnl:=hv.nl
 rw[iA (n:=2*(g.Links.length:Int)) (by omega) (by omega),iA (by omega) (by omega)]
 refine Ok.bnd (f_n h (by omega)) λq hq=>?_
 have hq1:=hq.1.2.1 (by omega)
 refine Ok.whl (λsg:List Int×Int×List aV×List Int×Int=>(Tn g root (dY.mk root sg.2.2.1)∧(∀x,x∈sg.1↔x=root∨∃h∈sg.2.2.1,h.To=x))∧(0≤sg.2.1∧(sg.1.length:Int)+sg.2.1≤130∧sg.2.2.1.length≤sg.1.length)∧fV (bL.mk sg.2.2.2.1 sg.2.2.2.2)∧(0<sg.2.1→1≤g.Links.length)) (λsg=>sg.2.1.toNat) ?_ (by simp only;omega) ?_
 ·refine⟨⟨⟨rfl,by simp,λhr=>⟨adl hv hr,by simp,by simp,by simp,by simp,by simp⟩,λ_=>rfl,by simp⟩,by simp⟩,⟨hq.1.1,by simp;omega,by simp⟩,hq.2,λh0=>?_⟩
  simp only at h0;omega
 rintro⟨vin,i,ls,L,A⟩ Z ⟨⟨h1,h2⟩,⟨h3,h4,h5⟩,h6,h7⟩ hZ
 simp only at h1 h2 h3 h4 h5 h7
 refine Ok.cs (λhc=>?_) λhc=>Ok.s ⟨h1,h6⟩
 have hc:0<i:=by simpa using hc
 refine Ok.jn (λsg:List Int×List Int×Int×List aV=>(Tn g root (dY.mk root sg.2.2.2)∧(∀x,x∈sg.1↔x=root∨∃h∈sg.2.2.2,h.To=x))∧((sg.1.length:Int)≤vin.length+1∧sg.2.2.2.length≤sg.1.length)∧fV (bL.mk sg.2.1 sg.2.2.1)) (λs hs=>?_) λJ hJ=>?_
 ·obtain⟨s1,s2,s3⟩:=hs
  rw[iA (by omega) (by omega)]
  exact hZ _ ⟨s1,⟨by simp only;omega,by simp only;omega,s2.2⟩,s3,λ_=>h7 hc⟩ (by simp only;omega)
 refine Ok.bnd (f_n h6 (by omega)) λp hp=>Ok.bnd (jM hp.1.1 (hp.1.2.1 (by have:=h7 hc;omega))) λl hl=>?_
 have xJ:gP g l.A l.B=true:=jm.2 ⟨l,hl.1,.inl ⟨rfl,rfl⟩⟩
 refine Ok.jn (λsg:Int×Int=>gP g sg.1 sg.2=true) (λs hs=>?_) λJ2 hJ2=>?_
 ·obtain⟨a,b⟩:=s
  have hs:gP g a b=true:=hs
  refine Ok.jn (λv:Bool=>v=true→a∈vin∧b∉vin) (λv hv2=>?_) λJ3 hJ3=>?_
  ·refine Ok.cs (λhc2=>?_) λ_=>hJ _ ⟨⟨h1,h2⟩,⟨by simp only;omega,h5⟩,hp.2⟩
   obtain⟨ha,hb⟩:=hv2 hc2
   refine Ok.bnd (tv (by simp;omega)) λv2 q2=>?_
   rw[aqN _ _ (by omega),aM,q2.1]
   have hpl:=(aaB ls (aV.mk a b)).length_eq
   simp only[List.length_cons]at hpl
   have hin:∀x,x∈vin++[b]↔x=root∨∃h∈oZ ls (aV.mk a b),h.To=x:=λx=>by
    rw[List.mem_append,h2]
    constructor
    ·rintro((h|⟨y,hy,h⟩)|h)
     ·exact .inl h
     ·exact .inr ⟨y,nY.2 (.inr hy),h⟩
     ·simp at h;subst h;exact .inr ⟨aV.mk a x,nY.2 (.inl rfl),rfl⟩
    ·rintro(h|⟨y,hy,h⟩)
     ·exact .inl (.inl h)
     ·rcases nY.1 hy with rfl|hy
      ·exact .inr (by simp[←h])
      ·exact .inl (.inr ⟨y,hy,h⟩)
   refine hJ _ ⟨⟨⟨rfl,?_,λhr=>?_,λhr=>?_,λy hy=>?_⟩,hin⟩,⟨by simp,by simp;omega⟩,hp.2⟩
   ·show(oZ ls (aV.mk a b)).length≤200;omega
   ·have e1:=adl hv (nj hv (ue hs));have e2:=adl hv (nj hv hs)
    exact(h1.v hr).add (x:=aV.mk a b) ⟨e1,e2⟩ ((h2 a).1 ha) (λhh=>hb ((h2 b).2 hh))
   ·have:=h1.no hr
    simp only at this
    subst this
    have:=(h2 a).1 ha
    simp at this
    subst this
    exact absurd (nj hv (ue hs)) hr
   ·rcases nY.1 hy with rfl|hy
    ·exact hs
    ·exact h1.adj y hy
  ·simp only[acm,aM]
   refine Ok.cs (λhca=>hJ3 _ λhcb=>⟨by simpa using hca,by simpa using hcb⟩) λ_=>hJ3 _ λh=>by cases h
 ·simp only[acm,aM]
  exact Ok.cs (λ_=>hJ2 _ (ue xJ)) λ_=>hJ2 _ xJ
end Go.Proofs.YtdjeacigeegklaaGreat
