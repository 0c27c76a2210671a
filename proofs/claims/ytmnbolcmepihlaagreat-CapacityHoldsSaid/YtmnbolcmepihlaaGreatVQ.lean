/- gw iD of h7 of aR program. bM bN cu cg bz cv in ck. -/
import Derived.Test.YtmnbolcmepihlaaGreatSO
import Derived.Test.YtmnbolcmepihlaaGreatSF
namespace Go.Proofs.YtmnbolcmepihlaaGreat
open Go Go.Proofs.Tryz
set_option maxRecDepth 100000
set_option linter.all false
theorem als{t:b0}{r:(List bL)}(hm:CO t=some r):gi prog 64 [] [.agg (dN t)] (λa az=>a=.own 500006400∧az=[(500006400,.slice 175 3 (aD eo r) 0 false)]):=by
 refine eu func64 rfl rfl ?_;unfold CO at hm;refine bn [(0,.al 64001)] [(1,.ptr 64001 0)] [(64001,.cells 28 (dN t))]<|br [] [] [(3,.cV)]<|A.seq<|bn [(2,aZ (ew eW t.Links))] [(3,.cV),(7,bm eW t.Links),(8,ag (t.Links.length:Int)),(9,ag 0)] []<|A.block<|A.jx 7 rfl λfZ=>?_
 obtain⟨hA,hB,hE,hq,hm⟩:=iF hm;refine A.iS (l:=t.Links) (hn:=0) (B:=hA) (K:=hB) hm (λbp=>λfI=>[(3,.own 600064003),(7,bm eW t.Links),(8,ag (t.Links.length:Int)),(9,ag (bp:Int))]) (λbp=>λfI=>[(600064003,.slice 175 3 (aD eo fI) 0 false)]) ?_ ?_ ?_
 ·exact b8.go [.ad 3 600064003 175 3] [] (by kernel_rfl)
 ·rintro bp aA dh fI hF cI hm;rw[hE]at hm;refine br [] [] [(10,.bool (decide ((bp:Int)<(t.Links.length:Int))))]<|A.seq<|cM (ih cI)<|A.skip<|A.seq<|A.block<|eV [(0,eg (ix eW (hN cI))),(2,.al 64005)] [10] [(5,.ptr 64005 0)] [] [(64005,.cells 62 (gK aA))] ?_
  obtain⟨eU,h1,hm⟩:=bI hm;exact lg [(18,qP 64531 (ap eo (bytes:=24) (by decide) h1))] [3,5] [(3,.own 64531)] [600064003,64005] [(64531,.slice 175 3 (aD eo eU) 0 false)]<|fq [(0,aZ (hV cI fZ))] [9] [(9,ag ((bp+1:Nat):Int))]<|Exists.intro eU (And.intro hm (b8.go [.kV 64531 600064003] [] (by kernel_rfl)))
 rintro bp fI hF gO hm;rw[hq]at hm;refine br [] [] [(10,.bool (decide ((bp:Int)<(t.Links.length:Int))))]<|A.seq<|cL (h8 gO)<|A.exit ?_
 obtain⟨nJ,D,hm⟩:=bI hm;refine bn [(1,gN [] (Xe (d:=600064003) (T:=175) D) adn)] [(3,.own 600064003)] [(600064003,.slice 175 3 (aD eo nJ) 0 false)]<|br [] [3] [(2,.own 600064003)]<|A.ret ?_
 obtain rfl:=nP hm;exact A.fin cm [.kV 600064003 500006400] rfl (by kernel_rfl)
end Go.Proofs.YtmnbolcmepihlaaGreat
