/- Plain: the law aff is true. No condition. -/
import Derived.Test.YtdjeacigeegklaaGreatPYS
import Derived.Test.YtdjeacigeegklaaGreatDL5
namespace Go.Proofs.YtdjeacigeegklaaGreat
set_option linter.all false
open Go
theorem ap6{α:Type}{l:List α}{k:Nat}{y:α}(h:l[k]?=some y):lq l (k:Int) ((k:Int)+1)=some [y]:=by
 obtain⟨hk,hy⟩:=List.getElem?_eq_some_iff.1 h
 unfold lq
 rw[if_pos ⟨by omega,by omega,by omega⟩]
 have e1:((k:Int)+1).toNat=k+1:=by omega
 rw[e1,Int.toNat_natCast,List.take_succ,List.drop_append_of_le_length (by simp;omega),h]
 rw[List.drop_of_length_le (by rw[List.length_take];omega)]
 rfl
theorem aun{e:aK}{t:aa}{r:Int}{d:List Int}{q rest:List bp}{x:bp}(hx:x.To∉d):((q++x::rest).flatMap (ki e t r d))[(q.flatMap (ki e t r d)).length]?=some x:=by
 rw[List.flatMap_append,List.flatMap_cons]
 have:ki e t r d x=[x]:=by unfold ki;rw[if_neg hx]
 rw[this,List.getElem?_append_right (Nat.le_refl _)]
 simp
theorem zv(t:List Int):kU t=some true:=by
 unfold kU
 refine Ok.eq (Ok.bnd (azi t) λs hs=>Ok.bnd (ac4 hs (by omega)) λq hq=>?_)
 obtain⟨g,t1⟩:=q
 obtain⟨hg,ht⟩:=hq
 have hv:Vt g:=hg.v
 have hnr:=hv.nr
 have hnl:=hv.nl
 have hgn:1≤g.aq.length:=hg.n.1
 refine Ok.bnd (adv ht hv hg.n.1) λq hq=>?_
 obtain⟨e,t2⟩:=q
 obtain⟨he,ht⟩:=hq
 have he:Ep g e:=he
 have hE:=he.f.v
 have hel:=hE.small
 refine agr (e:=e) (t:=t2) hE ht λm L A hm ht=>?_
 dsimp only
 have hpk:=ako hE hm (n:=9) (by omega)
 refine Ok.bnd (f_n ht (by omega)) λk hk=>Ok.bnd (iJ hk.1.1 (hk.1.2.1 (by omega))) λr hr=>Ok.bnd (akf (g:=g) (n:=2) hk.2 (by omega) (by omega)) λd hd=>?_
 obtain⟨d,t3⟩:=d
 have hfw:oE e r.ID (aT.mk 2 0 0 e.Length 9 0 0 0 m (⟨#[]⟩:ByteArray))=(l9 e r.ID (aT.mk 2 0 0 e.Length 9 0 0 0 m (⟨#[]⟩:ByteArray)),0):=by
  unfold oE;rw[if_pos (ry.2 hE),hpk.v,hpk.al3];rfl
 dsimp only
 rw[rX e _ _ (by omega),aR,hfw,wu e g _ _ _ (by omega),aR,aum he.pl hv hpk]
 generalize (aT.mk 2 0 0 e.Length 9 0 0 0 m (⟨#[]⟩:ByteArray))=p at hpk ⊢
 have hs:=hE.small
 have hcl:(l9 e r.ID p).bu.length≤64:=by
  show((p8 e r.ID p).map _).length≤64
  rw[List.length_map];exact Nat.le_trans (List.length_filter_le _ _) hs
 have hpl:=agq hE g r.ID p d
 refine Ok.cs (λhc=>?_) λ_=>?_
 ·simp[uo]at hc
 refine Ok.uE (L:=(l9 e r.ID p).bu) (λq (k:Int)=>0≤k∧k≤((q.flatMap (ki e g r.ID d)).length:Int)) (λq x rest k Z hL hI hZ=>?_) (0:Int) ⟨by omega,by simp⟩ (λs hs=>by rw[ap5];exact⟨true,rfl,rfl⟩)
 have hpos:((q++[x]).flatMap (ki e g r.ID d)).length=(q.flatMap (ki e g r.ID d)).length+(ki e g r.ID d x).length:=by simp
 simp only[jn]
 rw[auk,aR]
 refine Ok.cs (λ_=>hZ _ ⟨hI.1,by rw[hpos];omega⟩) λhd=>?_
 have hd:x.To∉d:=by simpa using hd
 have hat:(uo e g r.ID p d).bu[(q.flatMap (ki e g r.ID d)).length]?=some x:=by
  show((l9 e r.ID p).bu.flatMap (ki e g r.ID d))[_]?=_
  rw[hL];exact aun hd
 have hrx:(ki e g r.ID d x).length=1:=by unfold ki;rw[if_neg hd];rfl
 generalize hn:(q.flatMap (ki e g r.ID d)).length=n at hat hpos hI
 have hlt:n<(uo e g r.ID p d).bu.length:=(List.getElem?_eq_some_iff.1 hat).1
 generalize (uo e g r.ID p d).bu=cs at hat hlt hpl ⊢
 refine Ok.whl (λk:Int=>0≤k∧k≤(n:Int)) (λk=>n-k.toNat) hI (by omega) ?_
 intro k Z2 hk hZ2
 rw[decide_eq_true (by omega),cond_true]
 have ew:w64 (k+1)=k+1:=gF (by omega) (by omega)
 rw[ew]
 obtain⟨j,rfl⟩:∃j:Nat,k=(j:Int):=⟨k.toNat,by omega⟩
 have hjl:j<cs.length:=by omega
 rw[ap6 (List.getElem?_eq_getElem hjl),aR]
 by_cases hjn:j=n
 ·subst hjn
  have:cs[j]=x:=by rw[List.getElem?_eq_getElem hjl]at hat;exact Option.some.inj hat
  rw[this,ac9,aR]
  rw[Bool.not_true,cond_false,decide_eq_false (by omega),cond_false]
  exact hZ _ ⟨by omega,by rw[hpos,hrx];omega⟩
 ·refine Ok.bnd (akn x cs[j]) λb _=>?_
  cases b
  ·exact hZ2 _ ⟨by omega,by omega⟩ (by omega)
  ·rw[Bool.not_true,cond_false,decide_eq_false (by omega),cond_false]
   exact hZ _ ⟨by omega,by rw[hpos,hrx];omega⟩
end Go.Proofs.YtdjeacigeegklaaGreat
