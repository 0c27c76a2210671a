/- Plain: the law abd answers true. No condition. -/
import Derived.Test.YtmnbolcmepihlaaGreatPB1
import Derived.Test.YtmnbolcmepihlaaGreatDL8
namespace Go.Proofs.YtmnbolcmepihlaaGreat
set_option linter.all false
open Go
theorem vV(t:List Int):iM t=some true:=by
 unfold iM;refine Ok.eq (Ok.bnd (asH t) λs hs=>Ok.bnd (adm hs (by omega)) λp hp=>?_);obtain⟨g,t1⟩:=p;obtain⟨hg,ht⟩:=hp;have hv:Vt g:=hg.v;have hnr:=hv.nr;have hn1:1≤g.aC.length:=hg.n.1;simp only at ht ⊢;refine Ok.bnd (adT (g:=g) ht (by omega) (by omega)) λq hq=>?_;obtain⟨ds,t2⟩:=q;obtain⟨⟨hd,hl⟩,_⟩:=hq;simp only at hd hl ⊢;refine⟨true,abM hv hd (by omega) λout r hpl=>?_,rfl⟩;have hlen:=hpl.len;simp only[decide_true,hlen,cond_true];rw[ag9 hv hd (by omega) hpl,aI,decide_eq_true rfl,cond_true,adD hv hd (by omega) hpl,aI,decide_eq_true rfl,cond_true,amb];rfl
end Go.Proofs.YtmnbolcmepihlaaGreat
