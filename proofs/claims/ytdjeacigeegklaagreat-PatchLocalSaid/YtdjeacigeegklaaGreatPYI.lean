/- Plain: the bits of an xE. No condition but bB aX stand in each. -/
import Derived.Test.YtdjeacigeegklaaGreatPYH
namespace Go.Proofs.YtdjeacigeegklaaGreat
set_option linter.all false
open Go
theorem ad2:∀(l:List Int) (lo hi:Int),l.Pairwise (·<·)→(∀x∈l,lo≤x∧x<hi)→(l.length:Int)≤max (hi-lo) 0
 |[],lo,hi,_,_=>by simp;omega
 |x::r,lo,hi,h,hb=>by
  rw[List.pairwise_cons]at h
  have:=ad2 r (x+1) hi h.2 λy hy=>⟨by have:=h.1 y hy;omega,(hb y (by simp[hy])).2⟩
  have:=hb x (by simp)
  rw[List.length_cons];omega
theorem Ve.small{e:aK}(h:Ve e):e.List.length≤64:=by
 have:=ad2 (e.List.map (·.Bit)) 0 64 (List.pairwise_map.2 h.asc) λx hx=>by
  obtain⟨a,ha,rfl⟩:=List.mem_map.1 hx
  exact h.bit ha
 rw[List.length_map]at this;omega
end Go.Proofs.YtdjeacigeegklaaGreat
