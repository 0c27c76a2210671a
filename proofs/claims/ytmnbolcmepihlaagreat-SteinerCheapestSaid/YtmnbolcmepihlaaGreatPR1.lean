/- Plain: the law xK answers true. No condition. -/
import Derived.Test.YtmnbolcmepihlaaGreatPB1
import Derived.Test.YtmnbolcmepihlaaGreatPQB
import Derived.Test.YtmnbolcmepihlaaGreatDL1
namespace Go.Proofs.YtmnbolcmepihlaaGreat
set_option linter.all false
open Go
theorem rW(t:List Int):gw t=some true:=by
 unfold gw
 refine Ok.eq (Ok.bnd (aoG t) λs hs=>Ok.bnd (aaL hs (by omega)) λp hp=>?_)
 obtain⟨g,t1⟩:=p
 obtain⟨hg,ht⟩:=hp
 have hv:Vt g:=hg.v
 have hnr:=hv.nr
 have hn1:1≤g.ak.length:=hg.n.1
 dsimp only
 refine vP (g:=g) ht (by omega) λq r hq hr hid=>?_
 refine Ok.bnd (afz (g:=g) hq (by omega) (by omega)) λl hl=>?_
 obtain⟨l,t2⟩:=l
 obtain⟨⟨l1,l2,l3⟩,_⟩:=hl
 simp only at l1 l2 l3 ⊢
 refine⟨true,vQ hv hid l1 l2 (by omega) λx hx=>?_,rfl⟩
 refine Ok.eq (Ok.bnd (aaW hv hid l1 l2 (by omega)) λw hw=>?_)
 obtain⟨w1,w2⟩:=hw
 rcases hx with⟨x1,x2,hb⟩|⟨rfl,hn⟩
 ·obtain⟨tr,c,e⟩:=x
  obtain⟨root,hs⟩:=tr
  simp only at x1 x2 hb ⊢
  subst x1;subst x2
  have hA:=rT hv
  have hc:∀t,t∈l→Con aX (ei g) r.ID t:=by
   obtain⟨⟨Hs,hO,_,_⟩,_⟩:=hb
   exact λt ht=>(hO.cov t ht).mono hO.sub
  obtain⟨w3,w4⟩:=w1 hc
  have hlen:=aaU hA hb
  rw[w3,aiC _ _ (by show hs.length≤_;omega),aP,uQ _ _ _ (by show hs.length≤_;omega) (by omega),xJ _ _ _ (by show hs.length≤_;omega) (by omega),abH hv (λa ha=>ha) hid hb l1 l2 (λx hx=>hx),aP,aP,abB]
  unfold afO
  rw[abH hv (λa ha=>ha) hid hb (rs:=[]) List.Pairwise.nil (λx hx=>by cases hx) (λx hx=>by cases hx)]
  have aoN:zJ g hs=c:=ad0 hv hA (λa ha=>ha) hb
  have hcw:c=w.1:=by
   obtain⟨⟨Hs,hO,h3,_⟩,_⟩:=hb
   rw[w4 Hs hO,h3]
  simp only[decide_true,Bool.not_true,Bool.or_self,cond_false,cond_true,aoN]
  rw[decide_eq_true hcw]
  exact⟨true,rfl,rfl⟩
 ·rw[w2 hn,abB]
  exact⟨true,rfl,rfl⟩
end Go.Proofs.YtmnbolcmepihlaaGreat
