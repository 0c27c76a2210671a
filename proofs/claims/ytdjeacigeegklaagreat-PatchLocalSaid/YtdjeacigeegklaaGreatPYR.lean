/- Plain: what a run with aar comes to. No condition but bB aX stand in each. -/
import Derived.Test.YtdjeacigeegklaaGreatPYQ
namespace Go.Proofs.YtdjeacigeegklaaGreat
set_option linter.all false
open Go
theorem agq{e:aK}(hE:Ve e)(t:aa)(r:Int)(p:aT)(d:List Int):(uo e t r p d).bu.length≤65*64:=by
 have hs:=hE.small
 have hcl:(l9 e r p).bu.length≤64:=by
  show((p8 e r p).map _).length≤64
  rw[List.length_map];exact Nat.le_trans (List.length_filter_le _ _) hs
 have:=ad6 e t r d (l9 e r p).bu
 have h2:(e.List.length+1)*(l9 e r p).bu.length≤65*64:=Nat.mul_le_mul (by omega) hcl
 unfold uo
 dsimp only
 omega
theorem aum{e:aK}{t:aa}(hE:plB e=true)(ht:Vt t){p:aT}(hp:Pk e p)(r:Int)(d:List Int):pfT e t r p d=(uo e t r p d,0):=by
 unfold pfT
 have hfw:oE e r p=(l9 e r p,0):=by
  unfold oE;rw[if_pos (ry.2 (ad5.1 hE).1),hp.v,hp.al3];rfl
 rw[hfw,if_pos rfl,if_pos ⟨hE,jE.2 ht⟩]
end Go.Proofs.YtdjeacigeegklaaGreat
