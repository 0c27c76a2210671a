/- Plain: the bits of an ab3. No condition but bU bx stand in each. -/
import Derived.Test.YtdjeacigeegklaaGreatPYH
namespace Go.Proofs.YtdjeacigeegklaaGreat
set_option linter.all false
open Go
theorem afv:∀(l:List Int) (lo hi:Int),l.Pairwise (·<·)→(∀x∈l,lo≤x∧x<hi)→(l.length:Int)≤max (hi-lo) 0
 |[],lo,hi,_,_=>by simp;omega
 |x::r,lo,hi,h,hb=>by
  rw[List.pairwise_cons]at h
  have:=afv r (x+1) hi h.2 λy hy=>⟨by have:=h.1 y hy;omega,(hb y (by simp[hy])).2⟩
  have:=hb x (by simp)
  rw[List.length_cons];omega
theorem Ve.small{e:aG}(h:Ve e):e.List.length≤64:=by
 have:=afv (e.List.map (·.Bit)) 0 64 (List.pairwise_map.2 h.asc) λx hx=>by
  obtain⟨a,ha,rfl⟩:=List.mem_map.1 hx
  exact h.bit ha
 rw[List.length_map]at this;omega
variable {a b:ak}
theorem Ve.afw{e:aG}(h:Ve e)(ha:a∈e.List)(hb:b∈e.List)(hab:a.Bit=b.Bit):a=b:=by
 obtain⟨i,hi⟩:=List.getElem?_of_mem ha
 obtain⟨j,hj⟩:=List.getElem?_of_mem hb
 obtain⟨h1,rfl⟩:=List.getElem?_eq_some_iff.1 hi
 obtain⟨h2,rfl⟩:=List.getElem?_eq_some_iff.1 hj
 have hp:=List.pairwise_iff_getElem.1 h.asc
 rcases Nat.lt_trichotomy i j with hij|hij|hij
 ·have:=hp i j h1 h2 hij;omega
 ·subst hij;rfl
 ·have:=hp j i h2 h1 hij;omega
theorem Ve.key_inj{e:aG}(h:Ve e)(ha:a∈e.List)(hb:b∈e.List)(hab:tgA a=tgA b):a=b:=by
 obtain⟨i,hi⟩:=List.getElem?_of_mem ha
 obtain⟨j,hj⟩:=List.getElem?_of_mem hb
 obtain⟨h1,rfl⟩:=List.getElem?_eq_some_iff.1 hi
 obtain⟨h2,rfl⟩:=List.getElem?_eq_some_iff.1 hj
 have hp:=List.pairwise_iff_getElem.1 h.dup
 rcases Nat.lt_trichotomy i j with hij|hij|hij
 ·exact absurd hab (hp i j h1 h2 hij)
 ·subst hij;rfl
 ·exact absurd hab.symm (hp j i h2 h1 hij)
theorem ah7{e:aG}(h:Ve e)(ha:a∈e.List):uy e a.aN a.Kind a.To=(a.Bit,true):=by
 unfold uy vO;rw[if_pos (mK.2 h)]
 cases hf:e.List.find? (λx=>decide (x.aN=a.aN)&&(decide (x.Kind=a.Kind)&&decide (x.To=a.To)))with
 |none=>
  have:=List.find?_eq_none.1 hf a ha
  simp at this
 |some b=>
  have h1:=List.find?_some hf
  have h2:=List.mem_of_find?_eq_some hf
  simp only[Bool.and_eq_true,decide_eq_true_eq]at h1
  have:b=a:=h.key_inj h2 ha (by simp[tgA,h1.1,h1.2.1,h1.2.2])
  subst this;rfl
end Go.Proofs.YtdjeacigeegklaaGreat
