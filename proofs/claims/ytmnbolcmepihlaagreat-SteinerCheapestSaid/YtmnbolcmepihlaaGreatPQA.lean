/- Plain: mP trees as steiner afX xL. No condition but bk aJ stand in each. -/
import Derived.Test.YtmnbolcmepihlaaGreatPA1
import Derived.Test.YtmnbolcmepihlaaGreatWE
namespace Go.Proofs.YtmnbolcmepihlaaGreat
set_option linter.all false
open Go
theorem adM(l:List Int)(hl:l.length≤1000000):eR l=some (fJ (λa b=>decide (a<b)) l):=by
 unfold eR
 refine(nk (λa b:Int=>decide (a<b)) (some false) (λj x y r q s Z hL hj=>by
  simp only[lT hL hj (by omega),aP]
  by_cases h:y<x
  ·have:¬x≤y:=by omega
   simp[h,this]
  ·have:x≤y:=by omega
   simp[h,this]) _).trans ?_
 cases fJ (λa b:Int=>decide (a<b)) l<;>rfl
def yA(t:aj)(root:Int)(rs:List Int):Int:=bif !decide (gr t=0)then 1 else bif !fJ (λa b:Int=>decide (a<b)) rs then 25 else bif (root::rs).any (λr=>!hasB t r)then 4 else 0
theorem afA(t:aj)(root:Int)(rs:List Int)(hl:rs.length≤100000):ic t root rs=some (yA t root rs):=by
 unfold ic yA
 rw[uL,aP]
 by_cases h:gr t=0
 ·have hv:=lU.1 h
  have hnr:=hv.nr
  rw[decide_eq_true h,adM _ (by omega),aP]
  simp only[Bool.not_true,cond_false]
  cases fJ (λa b:Int=>decide (a<b)) rs with
  |false=>rfl
  |true=>
   simp only[Bool.not_true,cond_false]
   rw[oA (by simp;omega),aP]
   refine(eF (λr=>!hasB t r) (some 4) (λj x Z s=>by
    rw[abw t x (by omega),aP,decide_eq_true h,Bool.true_and]) _ _ _).trans ?_
   show(bif (root::rs).any (λr=>!hasB t r)then some 4 else some 0)=_
   cases(root::rs).any (λr=>!hasB t r)<;>rfl
 ·rw[decide_eq_false h];rfl
theorem adN{t:aj}(hv:Vt t){root:Int}(hr:root∈ids t){rs:List Int}(h1:rs.Pairwise (·<·))(h2:∀x∈rs,x∈ids t):yA t root rs=0:=by
 unfold yA
 have h3:fJ (λa b:Int=>decide (a<b)) rs=true:=iP (h1.imp λh=>by simpa using h)
 have h4:(root::rs).any (λr=>!hasB t r)=false:=any_false.2 λx hx=>by
  rcases List.mem_cons.1 hx with rfl|hx
  ·rw[iH.1 hr];rfl
  ·rw[iH.1 (h2 x hx)];rfl
 rw[h3,h4,decide_eq_true (lU.2 hv)];rfl
def mm(l:aU):List aq:=[aq.mk (aS.mk l.A l.B) l.dL,aq.mk (aS.mk l.B l.A) l.ep]
def ei(g:aj):List aq:=g.Links.flatMap mm
theorem aaM{α γ β:Type}{B:Int→α→(List γ→Option β)→List γ→Option β}{K:List γ→Option β}(f:α→List γ)(hB:∀j x Z s,B j x Z s=bnd (ij s (f x)) λl=>Z l)(k:Nat)(hk:∀x,(f x).length≤k):∀(l:List α) (j:Nat) (s:List γ),s.length+k*l.length≤1000000→bF l j B K s=K (s++l.flatMap f)
 |[],j,s,_=>by simp[bF]
 |x::r,j,s,h=>by
  have:=hk x
  simp only[List.length_cons,Nat.mul_add,Nat.mul_one]at h
  rw[bF,hB,oA (by omega),aP,aaM f hB k hk r (j+1) _ (by simp;omega)]
  simp
theorem qx{g:aj}{a:aq}:a∈ei g↔∃l∈g.Links,a=aq.mk (aS.mk l.A l.B) l.dL∨a=aq.mk (aS.mk l.B l.A) l.ep:=by
 simp[ei,mm]
theorem alX{a b:aS}(h:a≠b):eD [λx:aS=>x.aH,λx:aS=>x.To] a b<0∨eD [λx:aS=>x.aH,λx:aS=>x.To] b a<0:=by
 rw[fK,fK,fK,fK]
 have h2:a.aH≠b.aH∨a.To≠b.To:=by
  apply Classical.byContradiction
  intro hn
  have e1:a.aH=b.aH:=Classical.byContradiction λx=>hn (.inl x)
  have e2:a.To=b.To:=Classical.byContradiction λx=>hn (.inr x)
  apply h
  cases a;cases b
  simp only at e1 e2
  rw[e1,e2]
 simp only[eD]
 omega
theorem yB{g:aj}(hv:Vt g):(ei g).Pairwise λa b=>a.Hop≠b.Hop:=by
 unfold ei
 rw[List.pairwise_flatMap]
 refine⟨λl hl=>?_,hv.acB.imp_of_mem λ{a b} ha hb hab=>?_⟩
 ·have:=hv.lt l hl
  simp only[mm,List.pairwise_cons,List.mem_cons,List.not_mem_nil,or_false,forall_eq,List.Pairwise.nil,and_true,false_imp_iff,implies_true]
  intro h
  injection h with h1 h2
  omega
 ·have h1:=hv.lt a ha
  have h2:=hv.lt b hb
  simp only[ltL,Bool.or_eq_true,Bool.and_eq_true,decide_eq_true_eq]at hab
  intro x hx y hy
  simp only[mm,List.mem_cons,List.not_mem_nil,or_false]at hx hy
  rcases hx with rfl|rfl<;>rcases hy with rfl|rfl<;>(simp only;intro h;injection h with h3 h4;omega)
theorem afB{l:aU}(h:nW l=false):(1≤l.dL∧l.dL≤1000)∧1≤l.ep∧l.ep≤1000:=by
 simp only[nW,pL,Bool.or_eq_false_iff,Bool.not_eq_false',Bool.and_eq_true,decide_eq_true_eq]at h
 exact⟨h.1.1.1,h.1.1.2⟩
theorem aaN(g:aj):(ei g).length=2*g.Links.length:=by
 unfold ei
 induction g.Links with
 |nil=>rfl
 |cons a r ih=>rw[List.flatMap_cons,List.length_append,ih];simp[mm];omega
theorem adO{α γ:Type}{f:α→γ}:∀{l:List α},(l.Pairwise λa b=>f a≠f b)→∀a∈l,∀b∈l,f a=f b→a=b
 |[],_,a,ha,_,_,_=>by cases ha
 |x::r,h,a,ha,b,hb,e=>by
  rw[List.pairwise_cons]at h
  rcases List.mem_cons.1 ha with h1|h1<;>rcases List.mem_cons.1 hb with h2|h2
  ·rw[h1,h2]
  ·subst h1;exact absurd e (h.1 b h2)
  ·subst h2;exact absurd e.symm (h.1 a h1)
  ·exact adO h.2 a h1 b h2 e
theorem rT{g:aj}(hv:Vt g):kU (ei g):=by
 refine⟨λa ha=>?_,λa ha=>?_,adO (yB hv),?_⟩
 ·obtain⟨l,hl,h⟩:=qx.1 ha
  have:=afB (hv.okl l hl)
  rcases h with rfl|rfl<;>(simp only;omega)
 ·obtain⟨l,hl,h⟩:=qx.1 ha
  have h1:=hv.ends l hl
  have h2:=qv.1 h1.1
  have h3:=qv.1 h1.2
  obtain⟨x,hx,hx2⟩:=h2
  obtain⟨y,hy,hy2⟩:=h3
  have h4:=hv.idr x hx
  have h5:=hv.idr y hy
  rcases h with rfl|rfl<;>(simp only;omega)
 ·have:=hv.nl;rw[aaN];omega
theorem aoK{g:aj}(hv:Vt g):∃m,l6 g=some m∧m.Perm (ei g):=by
 have hnl:=hv.nl
 have hlen:=aaN g
 obtain⟨m,h1,h2,h3⟩:=y8 (ks:=[λx:aq=>x.Hop.aH,λx:aq=>x.Hop.To]) (l:=ei g) ((yB hv).imp λ{a b} h=>alX h) (by omega)
 refine⟨m,?_,h2⟩
 unfold l6
 refine(aaM mm (λj x Z s=>rfl) 2 (λx=>Nat.le_refl _) _ _ _ (by simp;omega)).trans ?_
 rw[List.nil_append]
 show bnd (mD _ (ei g)) _=_
 rw[h1];rfl
variable {a b:List aq}
theorem ait(h:a.Perm b)(hb:kU b):kU a:=⟨λx hx=>hb.cost x (h.mem_iff.1 hx),λx hx=>hb.to x (h.mem_iff.1 hx),λx hx y hy=>hb.hop x (h.mem_iff.1 hx) y (h.mem_iff.1 hy),by rw[h.length_eq];exact hb.len⟩
variable {T:Int→Prop}
theorem Opt.same{A:Type}[DecidableEq A]{N:Net A}{L L':List A}(hs:∀a,a∈L↔a∈L'){v:Int}{H:List A}(h:Opt N L T v H):Opt N L' T v H:=
 ⟨λa ha=>(hs a).1 (h.sub a ha),λa ha=>h.pos a ((hs a).2 ha),h.cov,λK hK=>h.min K λa ha=>(hs a).2 (hK a ha)⟩
theorem alY{A:Type}[DecidableEq A]{N:Net A}{L:List A}{v:Int}(hp:∀a∈L,0<N.cost a)(hc:∀t,T t→Con N L v t):∃H,Opt N L T v H:=by
 have:∀(n:Nat) (K:List A),(∀a∈K,a∈L)→(∀t,T t→Con N K v t)→cz N K≤n→∃H,Opt N L T v H:=by
  intro n
  induction n with
  |zero=>
   intro K h1 h2 h3
   refine⟨K,h1,hp,h2,λK' h4 _=>?_⟩
   have:0≤cz N K':=oH λa ha=>by have:=hp a (h4 a ha);omega
   simp only[Int.ofNat_zero]at h3
   omega
  |succ n ih=>
   intro K h1 h2 h3
   by_cases hx:∃K',(∀a∈K',a∈L)∧(∀t,T t→Con N K' v t)∧cz N K'<cz N K
   ·obtain⟨K',g1,g2,g3⟩:=hx
    exact ih K' g1 g2 (by omega)
   ·refine⟨K,h1,hp,h2,λK' h4 h5=>?_⟩
    apply Classical.byContradiction
    intro hlt
    exact hx ⟨K',h4,h5,by omega⟩
 exact this (cz N L).toNat L (λa ha=>ha) hc (by omega)
def ChT(g:aj)(root:Int)(ts:List Int)(x:bV×Int×Int):Prop:=(x.2.2=0∧x.1.bK=root∧rD (ei g) root ts x.1.Links x.2.1)∨(x=(bV.mk 0 [],0,9)∧¬∀t,t∈ts→Con aX (ei g) root t)
variable {ts:List Int}
theorem adP(h:a.Perm b){root:Int}{hs:List aS}{c:Int}(hb:rD a root ts hs c):rD b root ts hs c:=by
 obtain⟨⟨Hs,h1,h2,h3⟩,h4⟩:=hb
 exact⟨⟨Hs,h1.same λa=>h.mem_iff,h2,h3⟩,h4⟩
variable {ay:List aq}
theorem afC{Hs:List aq}(hA:kU ay)(h:∀a∈Hs,a∈ay):(Hs.length:Int)≤cz aX Hs:=(jo λa ha=>hA.cost a (h a ha)).1
theorem aiu(hA:kU ay){root:Int}(hc:∀t,t∈ts→Con aX ay root t):∃hs c,rD ay root ts hs c:=by
 obtain⟨Hs,hO⟩:=alY (N:=aX) (L:=ay) (T:=λt=>t∈ts) (λa ha=>by have:=(hA.cost a ha).1;show 0<a.bO;omega) hc
 have h1:=afC hA hO.sub
 have h2:=hO.min ay (λa ha=>ha) hc
 have h3:=(jo hA.cost).2
 have h4:=hA.len
 obtain⟨m,_,g2,g3⟩:=wG hA hO (by omega)
 exact⟨m,_,⟨Hs,hO,rfl,g2⟩,g3⟩
theorem vQ{β:Type}{g:aj}{root:Int}{K:(bV×Int×Int)→Option β}{r:β}(hv:Vt g)(hr:root∈ids g)(h1:ts.Pairwise (·<·))(h2:∀x∈ts,x∈ids g)(hl:ts.length≤6)(hK:∀x,ChT g root ts x→K x=some r):fS g root ts K=some r:=by
 obtain⟨m,hm,hp⟩:=aoK hv
 have hA:=ait hp (rT hv)
 unfold fS
 rw[afA _ _ _ (by omega),aP,adN hv hr h1 h2,decide_eq_true rfl,decide_eq_false (by omega),hm,aP]
 simp only[Bool.not_true,cond_false]
 unfold kI
 rw[if_pos ⟨hA,hl⟩]
 refine aib ?_ ?_
 ·by_cases hc:∀t,t∈ts→Con aX m root t
  ·obtain⟨hs,c,hb⟩:=aiu hA hc
   exact⟨(hs,c,true),.inl ⟨rfl,hb⟩⟩
  ·exact⟨([],0,false),.inr ⟨rfl,hc⟩⟩
 ·rintro⟨hs,c,ok⟩ h
  rcases h with⟨h,hb⟩|⟨h,hc⟩
  ·simp only at h hb
   subst h
   exact hK _ (.inl ⟨rfl,rfl,adP hp hb⟩)
  ·injection h with ha hb
   injection hb with hb hc'
   subst ha;subst hb;subst hc'
   exact hK _ (.inr ⟨rfl,λhx=>hc λt ht=>(hx t ht).mono λa ha=>hp.mem_iff.2 ha⟩)
end Go.Proofs.YtmnbolcmepihlaaGreat
