/- Plain: the bits of an aan. No condition but bO bx stand in each. -/
import Derived.Test.YtdjeacigeegklaaGreatPYH
namespace Go.Proofs.YtdjeacigeegklaaGreat
set_option linter.all false
open Go
theorem agK:∀(l:List Int) (lo hi:Int),l.Pairwise (·<·)→(∀x∈l,lo≤x∧x<hi)→(l.length:Int)≤max (hi-lo) 0
 |[],lo,hi,_,_=>by simp;omega
 |x::r,lo,hi,h,hb=>by
  rw[List.pairwise_cons]at h
  have:=agK r (x+1) hi h.2 λy hy=>⟨by have:=h.1 y hy;omega,(hb y (by simp[hy])).2⟩
  have:=hb x (by simp)
  rw[List.length_cons];omega
theorem Ve.small{e:aF}(h:Ve e):e.List.length≤64:=by
 have:=agK (e.List.map (·.Bit)) 0 64 (List.pairwise_map.2 h.asc) λx hx=>by
  obtain⟨a,ha,rfl⟩:=List.mem_map.1 hx
  exact h.bit ha
 rw[List.length_map]at this;omega
theorem Ve.agL{e:aF}(h:Ve e){a b:az}(ha:a∈e.List)(hb:b∈e.List)(hab:a.Bit=b.Bit):a=b:=by
 obtain⟨i,hi⟩:=List.getElem?_of_mem ha
 obtain⟨j,hj⟩:=List.getElem?_of_mem hb
 obtain⟨h1,rfl⟩:=List.getElem?_eq_some_iff.1 hi
 obtain⟨h2,rfl⟩:=List.getElem?_eq_some_iff.1 hj
 have hp:=List.pairwise_iff_getElem.1 h.asc
 rcases Nat.lt_trichotomy i j with hij|hij|hij
 ·have:=hp i j h1 h2 hij;omega
 ·subst hij;rfl
 ·have:=hp j i h2 h1 hij;omega
end Go.Proofs.YtdjeacigeegklaaGreat
