/- Plain: mN trees as steiner aaB u9. No condition but aX aH stand in each. -/
import Derived.Test.YtmnbolcmepihlaaPA1
import Derived.Test.YtmnbolcmepihlaaWE
namespace Go.Proofs.Ytmnbolcmepihlaa
set_option linter.all false
open Go
theorem agy(l:List Int)(hl:l.length≤1000000):er l=some (jf (λa b=>decide (a<b)) l):=by
 unfold er
 refine(yT (λa b:Int=>decide (a<b)) (some false) (λj x y r q s Z hL hj=>by
  simp only[sj hL hj (by omega),cO]
  by_cases h:y<x
  ·have:¬x≤y:=by omega
   simp[h,this]
  ·have:x≤y:=by omega
   simp[h,this]) _).trans ?_
 cases jf (λa b:Int=>decide (a<b)) l<;>rfl
def x6(t:az)(root:Int)(rs:List Int):Int:=bif !decide (oT t=0)then 1 else bif !jf (λa b:Int=>decide (a<b)) rs then 25 else bif (root::rs).any (λr=>!hasB t r)then 4 else 0
theorem aas(t:az)(root:Int)(rs:List Int)(hl:rs.length≤100000):fJ t root rs=some (x6 t root rs):=by
 unfold fJ x6
 rw[uL,cO]
 by_cases h:oT t=0
 ·have hv:=s4.1 h
  have hnr:=hv.nr
  rw[decide_eq_true h,agy _ (by omega),cO]
  simp only[Bool.not_true,cond_false]
  cases jf (λa b:Int=>decide (a<b)) rs with
  |false=>rfl
  |true=>
   simp only[Bool.not_true,cond_false]
   rw[tZ (by simp;omega),cO]
   refine(vZ (λr=>!hasB t r) (some 4) (λj x Z s=>by
    rw[acV t x (by omega),cO,decide_eq_true h,Bool.true_and]) _ _ _).trans ?_
   show(bif (root::rs).any (λr=>!hasB t r)then some 4 else some 0)=_
   cases(root::rs).any (λr=>!hasB t r)<;>rfl
 ·rw[decide_eq_false h];rfl
theorem agz{t:az}(hv:Vt t){root:Int}(hr:root∈ids t){rs:List Int}(h1:rs.Pairwise (·<·))(h2:∀x∈rs,x∈ids t):x6 t root rs=0:=by
 unfold x6
 have h3:jf (λa b:Int=>decide (a<b)) rs=true:=jg (h1.imp λh=>by simpa using h)
 have h4:(root::rs).any (λr=>!hasB t r)=false:=any_false.2 λx hx=>by
  rcases List.mem_cons.1 hx with rfl|hx
  ·rw[nX.1 hr];rfl
  ·rw[nX.1 (h2 x hx)];rfl
 rw[h3,h4,decide_eq_true (s4.2 hv)];rfl
def iD(l:bh):List af:=[af.mk (aV.mk l.A l.B) l.fc,af.mk (aV.mk l.B l.A) l.fS]
def gO(g:az):List af:=g.Links.flatMap iD
theorem wk{α γ β:Type}{B:Int→α→(List γ→Option β)→List γ→Option β}{K:List γ→Option β}(f:α→List γ)(hB:∀j x Z s,B j x Z s=bnd (iy s (f x)) λl=>Z l)(k:Nat)(hk:∀x,(f x).length≤k):∀(l:List α) (j:Nat) (s:List γ),s.length+k*l.length≤1000000→cc l j B K s=K (s++l.flatMap f)
 |[],j,s,_=>by simp[cc]
 |x::r,j,s,h=>by
  have:=hk x
  simp only[List.length_cons,Nat.mul_add,Nat.mul_one]at h
  rw[cc,hB,tZ (by omega),cO,wk f hB k hk r (j+1) _ (by simp;omega)]
  simp
theorem sv{g:az}{a:af}:a∈gO g↔∃l∈g.Links,a=af.mk (aV.mk l.A l.B) l.fc∨a=af.mk (aV.mk l.B l.A) l.fS:=by
 simp[gO,iD]
theorem agA{a b:aV}(h:a≠b):dQ [λx:aV=>x.bf,λx:aV=>x.To] a b<0∨dQ [λx:aV=>x.bf,λx:aV=>x.To] b a<0:=by
 rw[fA,fA,fA,fA]
 have h2:a.bf≠b.bf∨a.To≠b.To:=by
  apply Classical.byContradiction
  intro hn
  have e1:a.bf=b.bf:=Classical.byContradiction λx=>hn (.inl x)
  have e2:a.To=b.To:=Classical.byContradiction λx=>hn (.inr x)
  apply h
  cases a;cases b
  simp only at e1 e2
  rw[e1,e2]
 simp only[dQ]
 omega
theorem ug{g:az}(hv:Vt g):(gO g).Pairwise λa b=>a.Hop≠b.Hop:=by
 unfold gO
 rw[List.pairwise_flatMap]
 refine⟨λl hl=>?_,hv.aao.imp_of_mem λ{a b} ha hb hab=>?_⟩
 ·have:=hv.lt l hl
  simp only[iD,List.pairwise_cons,List.mem_cons,List.not_mem_nil,or_false,forall_eq,List.Pairwise.nil,and_true,false_imp_iff,implies_true]
  intro h
  injection h with h1 h2
  omega
 ·have h1:=hv.lt a ha
  have h2:=hv.lt b hb
  simp only[ltL,Bool.or_eq_true,Bool.and_eq_true,decide_eq_true_eq]at hab
  intro x hx y hy
  simp only[iD,List.mem_cons,List.not_mem_nil,or_false]at hx hy
  rcases hx with rfl|rfl<;>rcases hy with rfl|rfl<;>(simp only;intro h;injection h with h3 h4;omega)
theorem wm{l:bh}(h:mR l=false):(1≤l.fc∧l.fc≤1000)∧1≤l.fS∧l.fS≤1000:=by
 simp only[mR,sZ,Bool.or_eq_false_iff,Bool.not_eq_false',Bool.and_eq_true,decide_eq_true_eq]at h
 exact⟨h.1.1.1,h.1.1.2⟩
theorem sx(g:az):(gO g).length=2*g.Links.length:=by
 unfold gO
 induction g.Links with
 |nil=>rfl
 |cons a r ih=>rw[List.flatMap_cons,List.length_append,ih];simp[iD];omega
theorem y9{α γ:Type}{f:α→γ}:∀{l:List α},(l.Pairwise λa b=>f a≠f b)→∀a∈l,∀b∈l,f a=f b→a=b
 |[],_,a,ha,_,_,_=>by cases ha
 |x::r,h,a,ha,b,hb,e=>by
  rw[List.pairwise_cons]at h
  rcases List.mem_cons.1 ha with h1|h1<;>rcases List.mem_cons.1 hb with h2|h2
  ·rw[h1,h2]
  ·subst h1;exact absurd e (h.1 b h2)
  ·subst h2;exact absurd e.symm (h.1 a h1)
  ·exact y9 h.2 a h1 b h2 e
theorem xm{g:az}(hv:Vt g):jc (gO g):=by
 refine⟨λa ha=>?_,λa ha=>?_,y9 (ug hv),?_⟩
 ·obtain⟨l,hl,h⟩:=sv.1 ha
  have:=wm (hv.okl l hl)
  rcases h with rfl|rfl<;>(simp only;omega)
 ·obtain⟨l,hl,h⟩:=sv.1 ha
  have h1:=hv.ends l hl
  have h2:=mT.1 h1.1
  have h3:=mT.1 h1.2
  obtain⟨x,hx,hx2⟩:=h2
  obtain⟨y,hy,hy2⟩:=h3
  have h4:=hv.idr x hx
  have h5:=hv.idr y hy
  rcases h with rfl|rfl<;>(simp only;omega)
 ·have:=hv.nl;rw[sx];omega
theorem acZ{g:az}(hv:Vt g):(gO g).Nodup:=(ug hv).imp λh e=>h (by rw[e])
theorem ahI{g:az}(hv:Vt g):∃m,jl g=some m∧m.Perm (gO g):=by
 have hnl:=hv.nl
 have hlen:=sx g
 obtain⟨m,h1,h2,h3⟩:=uJ (ks:=[λx:af=>x.Hop.bf,λx:af=>x.Hop.To]) (l:=gO g) ((ug hv).imp λ{a b} h=>agA h) (by omega)
 refine⟨m,?_,h2⟩
 unfold jl
 refine(wk iD (λj x Z s=>rfl) 2 (λx=>Nat.le_refl _) _ _ _ (by simp;omega)).trans ?_
 rw[List.nil_append]
 show bnd (jI _ (gO g)) _=_
 rw[h1];rfl
variable {a b:List af}
theorem ac0(h:a.Perm b)(hb:jc b):jc a:=⟨λx hx=>hb.cost x (h.mem_iff.1 hx),λx hx=>hb.to x (h.mem_iff.1 hx),λx hx y hy=>hb.hop x (h.mem_iff.1 hx) y (h.mem_iff.1 hy),by rw[h.length_eq];exact hb.len⟩
variable {T:Int→Prop}
theorem Opt.same{A:Type}[DecidableEq A]{N:Net A}{L L':List A}(hs:∀a,a∈L↔a∈L'){v:Int}{H:List A}(h:Opt N L T v H):Opt N L' T v H:=
 ⟨λa ha=>(hs a).1 (h.sub a ha),λa ha=>h.pos a ((hs a).2 ha),h.cov,λK hK=>h.min K λa ha=>(hs a).2 (hK a ha)⟩
theorem agB{A:Type}[DecidableEq A]{N:Net A}{L:List A}{v:Int}(hp:∀a∈L,0<N.cost a)(hc:∀t,T t→Con N L v t):∃H,Opt N L T v H:=by
 have:∀(n:Nat) (K:List A),(∀a∈K,a∈L)→(∀t,T t→Con N K v t)→bP N K≤n→∃H,Opt N L T v H:=by
  intro n
  induction n with
  |zero=>
   intro K h1 h2 h3
   refine⟨K,h1,hp,h2,λK' h4 _=>?_⟩
   have:0≤bP N K':=lg λa ha=>by have:=hp a (h4 a ha);omega
   simp only[Int.ofNat_zero]at h3
   omega
  |succ n ih=>
   intro K h1 h2 h3
   by_cases hx:∃K',(∀a∈K',a∈L)∧(∀t,T t→Con N K' v t)∧bP N K'<bP N K
   ·obtain⟨K',g1,g2,g3⟩:=hx
    exact ih K' g1 g2 (by omega)
   ·refine⟨K,h1,hp,h2,λK' h4 h5=>?_⟩
    apply Classical.byContradiction
    intro hlt
    exact hx ⟨K',h4,h5,by omega⟩
 exact this (bP N L).toNat L (λa ha=>ha) hc (by omega)
def ChT(g:az)(root:Int)(ts:List Int)(x:ef×Int×Int):Prop:=(x.2.2=0∧x.1.jx=root∧vR (gO g) root ts x.1.Links x.2.1)∨(x=(ef.mk 0 [],0,9)∧¬∀t,t∈ts→Con aW (gO g) root t)
variable {ts:List Int}
theorem zb(h:a.Perm b){root:Int}{hs:List aV}{c:Int}(hb:vR a root ts hs c):vR b root ts hs c:=by
 obtain⟨⟨Hs,h1,h2,h3⟩,h4⟩:=hb
 exact⟨⟨Hs,h1.same λa=>h.mem_iff,h2,h3⟩,h4⟩
variable {ah:List af}
theorem aat{Hs:List af}(hA:jc ah)(h:∀a∈Hs,a∈ah):(Hs.length:Int)≤bP aW Hs:=(iC λa ha=>hA.cost a (h a ha)).1
theorem ac1(hA:jc ah){root:Int}(hc:∀t,t∈ts→Con aW ah root t):∃hs c,vR ah root ts hs c:=by
 obtain⟨Hs,hO⟩:=agB (N:=aW) (L:=ah) (T:=λt=>t∈ts) (λa ha=>by have:=(hA.cost a ha).1;show 0<a.bI;omega) hc
 have h1:=aat hA hO.sub
 have h2:=hO.min ah (λa ha=>ha) hc
 have h3:=(iC hA.cost).2
 have h4:=hA.len
 obtain⟨m,_,g2,g3⟩:=r9 hA hO (by omega)
 exact⟨m,_,⟨Hs,hO,rfl,g2⟩,g3⟩
theorem rq{β:Type}{g:az}{root:Int}{K:(ef×Int×Int)→Option β}{r:β}(hv:Vt g)(hr:root∈ids g)(h1:ts.Pairwise (·<·))(h2:∀x∈ts,x∈ids g)(hl:ts.length≤6)(hK:∀x,ChT g root ts x→K x=some r):eN g root ts K=some r:=by
 obtain⟨m,hm,hp⟩:=ahI hv
 have hA:=ac0 hp (xm hv)
 unfold eN
 rw[aas _ _ _ (by omega),cO,agz hv hr h1 h2,decide_eq_true rfl,decide_eq_false (by omega),hm,cO]
 simp only[Bool.not_true,cond_false]
 unfold iB
 rw[if_pos ⟨hA,hl⟩]
 refine acG ?_ ?_
 ·by_cases hc:∀t,t∈ts→Con aW m root t
  ·obtain⟨hs,c,hb⟩:=ac1 hA hc
   exact⟨(hs,c,true),.inl ⟨rfl,hb⟩⟩
  ·exact⟨([],0,false),.inr ⟨rfl,hc⟩⟩
 ·rintro⟨hs,c,ok⟩ h
  rcases h with⟨h,hb⟩|⟨h,hc⟩
  ·simp only at h hb
   subst h
   exact hK _ (.inl ⟨rfl,rfl,zb hp hb⟩)
  ·injection h with ha hb
   injection hb with hb hc'
   subst ha;subst hb;subst hc'
   exact hK _ (.inr ⟨rfl,λhx=>hc λt ht=>(hx t ht).mono λa ha=>hp.mem_iff.2 ha⟩)
end Go.Proofs.Ytmnbolcmepihlaa
