/- The gi of cW of the program. No condition but aX aH stand in each. -/
import Derived.Test.YtmnbolcmepihlaaSF
namespace Go.Proofs.Ytmnbolcmepihlaa
open Go Go.Proofs.Try
set_option maxRecDepth 100000
set_option linter.all false
theorem o6{t:az}{r:(List af)}(hm:jl t=some r):RO prog 18 [] [.agg (k2 t)] (lf aG r):=by
 refine bw func18 rfl rfl ?_
 unfold jl at hm
 refine qS [(0,.al 18001)] [(1,.ptr 18001 0)] [(18001,.cells 28 (k2 t))]<|qDs [] [] [(3,.aZ)]<|A.seq<|qS [(2,hto (lnE bz t.Links))] [(3,.aZ),(7,lf bz t.Links),(8,i6 (t.Links.length:Int)),(9,i6 0)] []<|A.block<|A.bS 7 rfl λhb1=>?_
 obtain⟨B1,K1,hB1,hK1,hm⟩:=cH hm
 refine A.lpI (l:=t.Links) (j0:=0) (B:=B1) (K:=K1) hm (λj1=>λgz=>[(3,.own 600018003),(7,lf bz t.Links),(8,i6 (t.Links.length:Int)),(9,i6 (j1:Int))]) (λj1=>λgz=>[(600018003,.slice 85 3 (ml aG gz) 0 false)]) ?_ ?_ ?_
 ·exact aN.go [.ad 3 600018003 85 3] [] (by kernel_rfl)
 ·rintro j1 e1 Z1 gz hj1 hx1 hm
  rw[hB1]at hm
  refine qDs [] [] [(10,.bool (decide ((j1:Int)<(t.Links.length:Int))))]<|A.seq<|qT (ltT hx1)<|A.skip<|A.seq<|A.block<|qD [(0,hix (ix bz (dG hx1))),(2,.al 18005)] [10] [(5,.ptr 18005 0)] [] [(18005,.cells 42 (k1 e1))] ?_
  obtain⟨l_1,h1,hm⟩:=ak hm
  exact qG [(18,hap 18531 (ap aG (bytes:=24) (by decide) h1))] [3,5] [(3,.own 18531)] [600018003,18005] [(18531,.slice 85 3 (ml aG l_1) 0 false)]<|qGs [(0,hto (inc hx1 hb1))] [9] [(9,i6 ((j1+1:Nat):Int))]<|Exists.intro l_1 (And.intro hm (aN.go [.sw 18531 600018003] [] (by kernel_rfl)))
 rintro j1 gz hj1 hl1 hm
 rw[hK1]at hm
 refine qDs [] [] [(10,.bool (decide ((j1:Int)<(t.Links.length:Int))))]<|A.seq<|qF (ltF hl1)<|A.exit ?_
 obtain⟨l_2,h2,hm⟩:=ak hm
 refine qS [(1,hdc [] (acK (d:=600018003) (T:=85) h2) ck33)] [(3,.own 600018003)] [(600018003,.slice 85 3 (ml aG l_2) 0 false)]<|qDs [] [3] [(2,.own 600018003)]<|A.ret ?_
 obtain rfl:=some_inj hm
 exact A.fin W0 [.fz [600018003]] rfl (by kernel_rfl)
end Go.Proofs.Ytmnbolcmepihlaa
