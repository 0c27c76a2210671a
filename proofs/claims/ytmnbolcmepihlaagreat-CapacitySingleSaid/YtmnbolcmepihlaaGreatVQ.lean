/- The walks of cz of the program. No condition but aX aL stand in each. -/
import Derived.Test.YtmnbolcmepihlaaGreatSO
import Derived.Test.YtmnbolcmepihlaaGreatSF
namespace Go.Proofs.YtmnbolcmepihlaaGreat
open Go Go.Proofs.Tryz
set_option maxRecDepth 100000
set_option linter.all false
theorem abM{t:af}{r:(List ai)}(hm:pK t=some r):bZ prog 64 [] [.agg (k2 t)] (λa σ'=>a=.own 500006400∧σ'=[(500006400,.slice 175 3 (ml aG r) 0 false)]):=by
 refine aY func64 rfl rfl ?_;unfold pK at hm;refine qS [(0,.al 64001)] [(1,.ptr 64001 0)] [(64001,.cells 28 (k2 t))]<|qDs [] [] [(3,.bF)]<|A.seq<|qS [(2,hto (lnE bw t.Links))] [(3,.bF),(7,lf bw t.Links),(8,i6 (t.Links.length:Int)),(9,i6 0)] []<|A.block<|A.bS 7 rfl λhb1=>?_
 obtain⟨B1,K1,hB1,hK1,hm⟩:=bh hm;refine A.lpI (l:=t.Links) (j0:=0) (B:=B1) (K:=K1) hm (λj1=>λb9=>[(3,.own 600064003),(7,lf bw t.Links),(8,i6 (t.Links.length:Int)),(9,i6 (j1:Int))]) (λj1=>λb9=>[(600064003,.slice 175 3 (ml aG b9) 0 false)]) ?_ ?_ ?_
 ·exact aZ.go [.ad 3 600064003 175 3] [] (by kernel_rfl)
 ·rintro j1 e1 Z1 b9 hj1 hx1 hm;rw[hB1]at hm;refine qDs [] [] [(10,.bool (decide ((j1:Int)<(t.Links.length:Int))))]<|A.seq<|qT (ltT hx1)<|A.skip<|A.seq<|A.block<|qD [(0,hix (ix bw (bn hx1))),(2,.al 64005)] [10] [(5,.ptr 64005 0)] [] [(64005,.cells 62 (k1 e1))] ?_
  obtain⟨l_1,h1,hm⟩:=aa hm;exact qG [(18,hap 64531 (ap aG (bytes:=24) (by decide) h1))] [3,5] [(3,.own 64531)] [600064003,64005] [(64531,.slice 175 3 (ml aG l_1) 0 false)]<|qGs [(0,hto (inc hx1 hb1))] [9] [(9,i6 ((j1+1:Nat):Int))]<|Exists.intro l_1 (And.intro hm (aZ.go [.sw 64531 600064003] [] (by kernel_rfl)))
 rintro j1 b9 hj1 hl1 hm;rw[hK1]at hm;refine qDs [] [] [(10,.bool (decide ((j1:Int)<(t.Links.length:Int))))]<|A.seq<|qF (ltF hl1)<|A.exit ?_
 obtain⟨l_2,h2,hm⟩:=aa hm;refine qS [(1,hdc [] (ah9 (d:=600064003) (T:=175) h2) ar9)] [(3,.own 600064003)] [(600064003,.slice 175 3 (ml aG l_2) 0 false)]<|qDs [] [3] [(2,.own 600064003)]<|A.ret ?_
 obtain rfl:=some_inj hm;exact A.fin W0 [.sw 600064003 500006400] rfl (by kernel_rfl)
end Go.Proofs.YtmnbolcmepihlaaGreat
