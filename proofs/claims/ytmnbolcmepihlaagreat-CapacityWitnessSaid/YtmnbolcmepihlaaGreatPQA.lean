/- Plain: mo trees as steiner gives xg. No condition but aT aH stand in each. -/
import Derived.Test.YtmnbolcmepihlaaGreatPA1
import Derived.Test.YtmnbolcmepihlaaGreatWE
namespace Go.Proofs.YtmnbolcmepihlaaGreat
set_option linter.all false
open Go
theorem al0(l:List Int)(hl:l.length≤1000000):gw l=some (jt (λa b=>decide (a<b)) l):=by
 unfold gw
 refine(uk (λa b:Int=>decide (a<b)) (some false) (λj x y r q s Z hL hj=>by
  simp only[pW hL hj (by omega),bx]
  by_cases h:y<x
  ·have:¬x≤y:=by omega
   simp[h,this]
  ·have:x≤y:=by omega
   simp[h,this]) _).trans ?_
 cases jt (λa b:Int=>decide (a<b)) l<;>rfl
def x7(l:aY):List af:=[af.mk (aF.mk l.A l.B) l.lZ,af.mk (aF.mk l.B l.A) l.l5]
def gG(g:aq):List af:=g.Links.flatMap x7
theorem aas{α γ β:Type}{B:Int→α→(List γ→Option β)→List γ→Option β}{K:List γ→Option β}(f:α→List γ)(hB:∀j x Z s,B j x Z s=bnd (gV s (f x)) λl=>Z l)(k:Nat)(hk:∀x,(f x).length≤k):∀(l:List α) (j:Nat) (s:List γ),s.length+k*l.length≤1000000→bZ l j B K s=K (s++l.flatMap f)
 |[],j,s,_=>by simp[bZ]
 |x::r,j,s,h=>by
  have:=hk x
  simp only[List.length_cons,Nat.mul_add,Nat.mul_one]at h
  rw[bZ,hB,nN (by omega),bx,aas f hB k hk r (j+1) _ (by simp;omega)]
  simp
theorem mz{g:aq}{a:af}:a∈gG g↔∃l∈g.Links,a=af.mk (aF.mk l.A l.B) l.lZ∨a=af.mk (aF.mk l.B l.A) l.l5:=by
 simp[gG,x7]
theorem adH{a b:aF}(h:a≠b):cD [λx:aF=>x.aJ,λx:aF=>x.To] a b<0∨cD [λx:aF=>x.aJ,λx:aF=>x.To] b a<0:=by
 rw[fC,fC,fC,fC]
 have h2:a.aJ≠b.aJ∨a.To≠b.To:=by
  apply Classical.byContradiction
  intro hn
  have e1:a.aJ=b.aJ:=Classical.byContradiction λx=>hn (.inl x)
  have e2:a.To=b.To:=Classical.byContradiction λx=>hn (.inr x)
  apply h
  cases a;cases b
  simp only at e1 e2
  rw[e1,e2]
 simp only[cD]
 omega
theorem abe{g:aq}(hv:Vt g):(gG g).Pairwise λa b=>a.Hop≠b.Hop:=by
 unfold gG
 rw[List.pairwise_flatMap]
 refine⟨λl hl=>?_,hv.aco.imp_of_mem λ{a b} ha hb hab=>?_⟩
 ·have:=hv.lt l hl
  simp only[x7,List.pairwise_cons,List.mem_cons,List.not_mem_nil,or_false,forall_eq,List.Pairwise.nil,and_true,false_imp_iff,implies_true]
  intro h
  injection h with h1 h2
  omega
 ·have h1:=hv.lt a ha
  have h2:=hv.lt b hb
  simp only[ltL,Bool.or_eq_true,Bool.and_eq_true,decide_eq_true_eq]at hab
  intro x hx y hy
  simp only[x7,List.mem_cons,List.not_mem_nil,or_false]at hx hy
  rcases hx with rfl|rfl<;>rcases hy with rfl|rfl<;>(simp only;intro h;injection h with h3 h4;omega)
theorem afs{l:aY}(h:pU l=false):(1≤l.lZ∧l.lZ≤1000)∧1≤l.l5∧l.l5≤1000:=by
 simp only[pU,xb,Bool.or_eq_false_iff,Bool.not_eq_false',Bool.and_eq_true,decide_eq_true_eq]at h
 exact⟨h.1.1.1,h.1.1.2⟩
theorem p9(g:aq):(gG g).length=2*g.Links.length:=by
 unfold gG
 induction g.Links with
 |nil=>rfl
 |cons a r ih=>rw[List.flatMap_cons,List.length_append,ih];simp[x7];omega
theorem adI{α γ:Type}{f:α→γ}:∀{l:List α},(l.Pairwise λa b=>f a≠f b)→∀a∈l,∀b∈l,f a=f b→a=b
 |[],_,a,ha,_,_,_=>by cases ha
 |x::r,h,a,ha,b,hb,e=>by
  rw[List.pairwise_cons]at h
  rcases List.mem_cons.1 ha with h1|h1<;>rcases List.mem_cons.1 hb with h2|h2
  ·rw[h1,h2]
  ·subst h1;exact absurd e (h.1 b h2)
  ·subst h2;exact absurd e.symm (h.1 a h1)
  ·exact adI h.2 a h1 b h2 e
theorem ais{g:aq}(hv:Vt g):ig (gG g):=by
 refine⟨λa ha=>?_,λa ha=>?_,adI (abe hv),?_⟩
 ·obtain⟨l,hl,h⟩:=mz.1 ha
  have:=afs (hv.okl l hl)
  rcases h with rfl|rfl<;>(simp only;omega)
 ·obtain⟨l,hl,h⟩:=mz.1 ha
  have h1:=hv.ends l hl
  have h2:=pY.1 h1.1
  have h3:=pY.1 h1.2
  obtain⟨x,hx,hx2⟩:=h2
  obtain⟨y,hy,hy2⟩:=h3
  have h4:=hv.idr x hx
  have h5:=hv.idr y hy
  rcases h with rfl|rfl<;>(simp only;omega)
 ·have:=hv.nl;rw[p9];omega
theorem aoL{g:aq}(hv:Vt g):∃m,ng g=some m∧m.Perm (gG g):=by
 have hnl:=hv.nl
 have hlen:=p9 g
 obtain⟨m,h1,h2,h3⟩:=uf (ks:=[λx:af=>x.Hop.aJ,λx:af=>x.Hop.To]) (l:=gG g) ((abe hv).imp λ{a b} h=>adH h) (by omega)
 refine⟨m,?_,h2⟩
 unfold ng
 refine(aas x7 (λj x Z s=>rfl) 2 (λx=>Nat.le_refl _) _ _ _ (by simp;omega)).trans ?_
 rw[List.nil_append]
 show bnd (iM _ (gG g)) _=_
 rw[h1];rfl
variable {a b:List af}
theorem abf(h:a.Perm b)(hb:ig b):ig a:=⟨λx hx=>hb.cost x (h.mem_iff.1 hx),λx hx=>hb.to x (h.mem_iff.1 hx),λx hx y hy=>hb.hop x (h.mem_iff.1 hx) y (h.mem_iff.1 hy),by rw[h.length_eq];exact hb.len⟩
variable {T:Int→Prop}
theorem Opt.same{A:Type}[DecidableEq A]{N:Net A}{L L':List A}(hs:∀a,a∈L↔a∈L'){v:Int}{H:List A}(h:Opt N L T v H):Opt N L' T v H:=
 ⟨λa ha=>(hs a).1 (h.sub a ha),λa ha=>h.pos a ((hs a).2 ha),h.cov,λK hK=>h.min K λa ha=>(hs a).2 (hK a ha)⟩
theorem al1{A:Type}[DecidableEq A]{N:Net A}{L:List A}{v:Int}(hp:∀a∈L,0<N.cost a)(hc:∀t,T t→Con N L v t):∃H,Opt N L T v H:=by
 have:∀(n:Nat) (K:List A),(∀a∈K,a∈L)→(∀t,T t→Con N K v t)→dI N K≤n→∃H,Opt N L T v H:=by
  intro n
  induction n with
  |zero=>
   intro K h1 h2 h3
   refine⟨K,h1,hp,h2,λK' h4 _=>?_⟩
   have:0≤dI N K':=vv λa ha=>by have:=hp a (h4 a ha);omega
   simp only[Int.ofNat_zero]at h3
   omega
  |succ n ih=>
   intro K h1 h2 h3
   by_cases hx:∃K',(∀a∈K',a∈L)∧(∀t,T t→Con N K' v t)∧dI N K'<dI N K
   ·obtain⟨K',g1,g2,g3⟩:=hx
    exact ih K' g1 g2 (by omega)
   ·refine⟨K,h1,hp,h2,λK' h4 h5=>?_⟩
    apply Classical.byContradiction
    intro hlt
    exact hx ⟨K',h4,h5,by omega⟩
 exact this (dI N L).toNat L (λa ha=>ha) hc (by omega)
variable {ts:List Int}
theorem adJ(h:a.Perm b){root:Int}{hs:List aF}{c:Int}(hb:nM a root ts hs c):nM b root ts hs c:=by
 obtain⟨⟨Hs,h1,h2,h3⟩,h4⟩:=hb
 exact⟨⟨Hs,h1.same λa=>h.mem_iff,h2,h3⟩,h4⟩
variable {ai:List af}
theorem aft{Hs:List af}(hA:ig ai)(h:∀a∈Hs,a∈ai):(Hs.length:Int)≤dI bI Hs:=(jZ λa ha=>hA.cost a (h a ha)).1
theorem ait(hA:ig ai){root:Int}(hc:∀t,t∈ts→Con bI ai root t):∃hs c,nM ai root ts hs c:=by
 obtain⟨Hs,hO⟩:=al1 (N:=bI) (L:=ai) (T:=λt=>t∈ts) (λa ha=>by have:=(hA.cost a ha).1;show 0<a.cV;omega) hc
 have h1:=aft hA hO.sub
 have h2:=hO.min ai (λa ha=>ha) hc
 have h3:=(jZ hA.cost).2
 have h4:=hA.len
 obtain⟨m,_,g2,g3⟩:=v8 hA hO (by omega)
 exact⟨m,_,⟨Hs,hO,rfl,g2⟩,g3⟩
end Go.Proofs.YtmnbolcmepihlaaGreat
