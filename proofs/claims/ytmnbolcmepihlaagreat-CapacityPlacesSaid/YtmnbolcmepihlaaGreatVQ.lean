/- The walks of cE of the program. No condition but bf aM stand in each. -/
import Derived.Test.YtmnbolcmepihlaaGreatSO
import Derived.Test.YtmnbolcmepihlaaGreatSF
namespace Go.Proofs.YtmnbolcmepihlaaGreat
open Go Go.Proofs.Tryz
set_option maxRecDepth 100000
set_option linter.all false
theorem abU{t:ai}{r:(List ah)}(hm:pU t=some r):b9 prog 64 [] [.agg (k2 t)] (λa σ'=>a=.own 500006400∧σ'=[(500006400,.slice 175 3 (ml aH r) 0 false)]):=by
 refine aZ func64 rfl rfl ?_;unfold pU at hm;refine qS [(0,.al 64001)] [(1,.ptr 64001 0)] [(64001,.cells 28 (k2 t))]<|qDs [] [] [(3,.bI)]<|A.seq<|qS [(2,hto (lnE bD t.Links))] [(3,.bI),(7,lf bD t.Links),(8,i6 (t.Links.length:Int)),(9,i6 0)] []<|A.block<|A.bS 7 rfl λhb1=>?_
 obtain⟨B1,K1,hB1,hK1,hm⟩:=bh hm;refine A.lpI (l:=t.Links) (j0:=0) (B:=B1) (K:=K1) hm (λj1=>λbK=>[(3,.own 600064003),(7,lf bD t.Links),(8,i6 (t.Links.length:Int)),(9,i6 (j1:Int))]) (λj1=>λbK=>[(600064003,.slice 175 3 (ml aH bK) 0 false)]) ?_ ?_ ?_
 ·exact aU.go [.ad 3 600064003 175 3] [] (by kernel_rfl)
 ·rintro j1 e1 Z1 bK hj1 hx1 hm;rw[hB1]at hm;refine qDs [] [] [(10,.bool (decide ((j1:Int)<(t.Links.length:Int))))]<|A.seq<|qT (ltT hx1)<|A.skip<|A.seq<|A.block<|qD [(0,hix (ix bD (bu hx1))),(2,.al 64005)] [10] [(5,.ptr 64005 0)] [] [(64005,.cells 62 (k1 e1))] ?_
  obtain⟨l_1,h1,hm⟩:=aa hm;exact qG [(18,hap 64531 (ap aH (bytes:=24) (by decide) h1))] [3,5] [(3,.own 64531)] [600064003,64005] [(64531,.slice 175 3 (ml aH l_1) 0 false)]<|qGs [(0,hto (inc hx1 hb1))] [9] [(9,i6 ((j1+1:Nat):Int))]<|Exists.intro l_1 (And.intro hm (aU.go [.sw 64531 600064003] [] (by kernel_rfl)))
 rintro j1 bK hj1 hl1 hm;rw[hK1]at hm;refine qDs [] [] [(10,.bool (decide ((j1:Int)<(t.Links.length:Int))))]<|A.seq<|qF (ltF hl1)<|A.exit ?_
 obtain⟨l_2,h2,hm⟩:=aa hm;refine qS [(1,hdc [] (aip (d:=600064003) (T:=175) h2) ar7)] [(3,.own 600064003)] [(600064003,.slice 175 3 (ml aH l_2) 0 false)]<|qDs [] [3] [(2,.own 600064003)]<|A.ret ?_
 obtain rfl:=some_inj hm;exact A.fin W0 [.sw 600064003 500006400] rfl (by kernel_rfl)
end Go.Proofs.YtmnbolcmepihlaaGreat
