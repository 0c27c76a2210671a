/- gw iD of h7 of aR program. bM bN cu cg bz cv in ck. -/
import Derived.Test.YtmnbolcmepihlaaGreatV4
namespace Go.Proofs.YtmnbolcmepihlaaGreat
open Go Go.Proofs.Tryz
set_option maxRecDepth 100000
set_option linter.all false
variable {r:Int}
theorem ai4{a:bh}{b:bh}(hm:Fg a b=some r):ef prog 125 [] [.agg (k8 a),.agg (k8 b)] (ag r):=by
 refine eu func125 rfl rfl ?_;unfold Fg at hm;refine bn [(0,.al 125002),(1,.al 125003)] [(2,.ptr 125002 0),(3,.ptr 125003 0)] [(125002,.cells 84 (k8 a)),(125003,.cells 84 (k8 b))] ?_;obtain⟨a8,h1,hm⟩:=bI hm;obtain⟨bt,D,hm⟩:=bI hm;obtain⟨c7,ak,hm⟩:=bI hm;refine bn [(4,cE (rQ h1) sw),(9,cE (rQ D) sw),(11,cE (CA ak) Dz)] [(4,ag c7)] [] ?_;cases hm;exact A.ret cC
theorem alk{a:bL}{b:bL}(hm:FP a b=some r):ef prog 128 [] [.agg (pn a),.agg (pn b)] (ag r):=by
 refine eu func128 rfl rfl ?_;unfold FP at hm;refine bn [(0,.al 128002),(1,.al 128003)] [(2,.ptr 128002 0),(3,.ptr 128003 0)] [(128002,.cells 175 (pn a)),(128003,.cells 175 (pn b))] ?_;obtain⟨a8,h1,hm⟩:=bI hm;obtain⟨bt,D,hm⟩:=bI hm;obtain⟨c7,ak,hm⟩:=bI hm;refine bn [(6,cE (rQ h1) sw),(13,cE (rQ D) sw),(15,cE (CA ak) Dz)] [(4,ag c7)] [] ?_;cases hm;exact A.ret cC
theorem ai5{a:ep}{b:ep}(hm:Fh a b=some r):ef prog 155 [] [.agg (oJ a),.agg (oJ b)] (ag r):=by
 refine eu func155 rfl rfl ?_;unfold Fh at hm;refine bn [(0,.al 155002),(1,.al 155003)] [(2,.ptr 155002 0),(3,.ptr 155003 0)] [(155002,.cells 60 (oJ a)),(155003,.cells 60 (oJ b))] ?_;obtain⟨a8,h1,hm⟩:=bI hm;obtain⟨bt,D,hm⟩:=bI hm;obtain⟨c7,ak,hm⟩:=bI hm;refine bn [(4,cE (rQ h1) sw),(9,cE (rQ D) sw),(11,cE (CA ak) Dz)] [(4,ag c7)] [] ?_;cases hm;exact A.ret cC
end Go.Proofs.YtmnbolcmepihlaaGreat
