/- Plain: the law xe answers true. No condition. -/
import Derived.Test.YtmnbolcmepihlaaGreatPB1
import Derived.Test.YtmnbolcmepihlaaGreatDL5
namespace Go.Proofs.YtmnbolcmepihlaaGreat
set_option linter.all false
open Go
theorem uA{α β:Type}{B:Int→α→(Bool→Option β)→Bool→Option β}{K:Bool→Option β}(p:α→Bool)(hB:∀j x Z s,B j x Z s=bif s then Z (p x)else Z false):∀(l:List α) (j:Nat) (s:Bool),bZ l j B K s=K (s&&l.all p)
 |[],j,s=>by simp[bZ]
 |x::r,j,s=>by
  rw[bZ,hB]
  cases s with
  |false=>simp only[cond_false];rw[uA p hB r (j+1)];simp
  |true=>simp only[cond_true];rw[uA p hB r (j+1)];simp
theorem rD(t:List Int):gr t=some true:=by
 unfold gr
 refine Ok.eq (Ok.bnd (aoH t) λs hs=>Ok.bnd (aar hs (by omega)) λp hp=>?_)
 obtain⟨g,t1⟩:=p
 obtain⟨hg,ht⟩:=hp
 have hv:Vt g:=hg.v
 have hnr:=hv.nr
 have hn1:1≤g.aS.length:=hg.n.1
 simp only at ht ⊢
 refine Ok.bnd (aaP (g:=g) ht (by omega) (by omega)) λq hq=>?_
 obtain⟨ds,t2⟩:=q
 obtain⟨⟨hd,hl⟩,_⟩:=hq
 simp only at hd hl ⊢
 refine⟨true,yL hv hd (by omega) λout r hpl=>?_,rfl⟩
 have hlen:=hpl.len
 simp only[decide_true,hlen,Bool.not_true,Bool.or_self,cond_false]
 refine Ok.eq (Ok.aal (λ_ _=>True) ?_ _ trivial λs _=>by rw[aiF];exact⟨true,rfl,rfl⟩)
 rintro pre d rest s Z hL _ hZ
 have hi:ds[pre.length]?=some d:=by rw[hL];simp
 have hlt:pre.length<ds.length:=by rw[hL];simp
 obtain⟨x,hx⟩:∃x,out[pre.length]?=some x:=⟨_,List.getElem?_eq_getElem (by omega)⟩
 simp only[cw hx,bx,jn]
 by_cases hr:x.bK=0
 rotate_left
 ·rw[decide_eq_false hr]
  exact hZ _ trivial
 rw[decide_eq_true hr,Bool.not_true,cond_false]
 have hdd:=hd d (by rw[hL];simp)
 obtain⟨ri,r',g1,g2⟩:=hpl.at hi hx
 have hno:¬∀x,x∈d.bq→Con bI (gd g ri d.eD) d.bK x:=by
  rcases g2 with⟨hs,c,rfl,_⟩|⟨_,h,_⟩
  ·have:=(rC hv hdd.root).1
   simp only at hr
   omega
  ·exact h
 have hri:=g1.ok hv λd hd'=>hd d (List.mem_of_mem_take hd')
 obtain⟨l,hl1,hl2⟩:=aax hv hd (by omega) g1 (List.take_prefix _ _)
 obtain⟨w,hw,hw2,hw3⟩:=vE hv hri hl2 hdd hno
 have hsl:mc out (0:Int) (pre.length:Int)=some (out.take pre.length):=by
  obtain⟨m,h1,h2,_⟩:=uj (l:=out) (a:=0) (b:=(pre.length:Int)) (by omega)
  rw[h1,h2];simp
 have aoO:d.bK∈w:=(hw3 _).2 (.refl _)
 simp only[hsl,hl1,hw,bx,f_in,decide_true,Bool.not_true,cond_false,decide_eq_true aoO]
 refine(congrArg (λo=>Ok o λx=>x=true) (uA (λx=>decide (x∈w)) (λj x Z s=>rfl) _ _ _)).mpr ?_
 have e:(d.bq.all λx=>decide (x∈w))=false:=by
  cases h:d.bq.all λx=>decide (x∈w)with
  |false=>rfl
  |true=>
   rw[List.all_eq_true]at h
   exact absurd (λx hx=>(hw3 x).1 (by simpa using h x hx)) hno
 simp only[e,Bool.and_false,cond_false]
 refine Ok.forM (λ_ _=>True) (λj y _ Y _ hy _ hY=>?_) _ trivial λ_ _=>hZ _ trivial
 obtain⟨p,hp,rfl⟩:=List.mem_map.1 (hl2.mem_iff.1 hy)
 by_cases h1:(ldR p).aJ∈w
 ·rw[decide_eq_true h1,cond_true]
  by_cases h2:(ldR p).To∈w
  ·rw[decide_eq_true h2]
   exact hY _ trivial
  ·rw[decide_eq_false h2]
   have:¬d.eD≤(ldR p).Count:=λhle=>by
    obtain⟨a,ha,he⟩:=(hri.key p.1).1 (List.mem_map.2 ⟨p,hp,rfl⟩)
    have hg:eN ri a.Hop=p.2:=by unfold eN;rw[he,acv hri.nd hp];rfl
    have hop:a∈gd g ri d.eD:=sV.2 ⟨ha,by rw[hg];exact hle⟩
    have hc:=(hw3 _).1 h1
    have e1:(ldR p).aJ=a.Hop.aJ:=by rw[he];rfl
    have e2:(ldR p).To=a.Hop.To:=by rw[he];rfl
    rw[e1]at hc
    exact h2 ((hw3 _).2 (by rw[e2];exact hc.trans (Con.one (N:=bI) hop)))
   rw[decide_eq_false this]
   exact hY _ trivial
 ·rw[decide_eq_false h1]
  exact hY _ trivial
end Go.Proofs.YtmnbolcmepihlaaGreat
