/- Plain: the ad7 bn the later abd tape makes fit amw rO. No condition but bK bn stand in each. -/
import Derived.Test.YtdjeacigeegklaaGreatPYG
namespace Go.Proofs.YtdjeacigeegklaaGreat
set_option linter.all false
open Go
def shA(c:Int)(a:ay):ay:=ay.mk (a.Bit+c) a.aK a.Kind a.To
theorem EL.shift{t:aa}{m:List ay}(h:EL t 0 m)(c:Nat):EL t c (m.map (shA (c:Int))):=by
 refine⟨λi a hi=>?_,λa ha=>?_,?_⟩
 ·rw[List.getElem?_map]at hi
  cases hm:m[i]? with
  |none=>rw[hm]at hi;cases hi
  |some b=>
   rw[hm]at hi;cases hi
   have:=h.bit i b hm
   simp only[shA];omega
 ·obtain⟨b,hb,rfl⟩:=List.mem_map.1 ha
  obtain⟨h1,h2,h3⟩:=h.ok b hb
  exact⟨h1,h2,h3⟩
 ·exact List.pairwise_map.2 (h.dup.imp λh=>h)
theorem aea{t:aa}(hv:Vt t){n:Int}(h:(kY t n).2=0):Ef t (kY t n).1∧kY t n=(aC.mk n (jr 0 (gL t)),0)∧((gL t).length:Int)≤n:=by
 unfold kY at *
 rw[if_pos (fK.2 hv)]at *
 cases hl:kU n
 ·rw[hl]at h;simp at h
 ·rw[hl]at h
  simp only[Bool.not_true,cond_false]at h ⊢
  by_cases hn:n<((gL t).length:Int)
  ·rw[if_pos hn]at h;simp at h
  ·rw[if_neg hn]
   refine⟨(aqP hv).ef hv (by simpa [kU]using hl) (by rw[rQ];omega),rfl,by omega⟩
end Go.Proofs.YtdjeacigeegklaaGreat
