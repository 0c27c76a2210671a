/- Loads of a map, and the map of uD: the words. No condition. -/
import Derived.Test.YtmnbolcmepihlaaGreatT
namespace Go.Proofs.YtmnbolcmepihlaaGreat
set_option linter.all false
open Go
def iK(m:List (aF×Int)):Option (List bP):=if m.length≤100000 then iM (cD [λx:bP=>x.aJ,λx:bP=>x.To]) (m.map λp=>bP.mk p.1.aJ p.1.To p.2)else none
def og(l:List bP):List (aF×Int):=l.reverse.foldl (λm x=>dQ bh m (aF.mk x.aJ x.To) x.Count) []
def j8(l:List bP):Option (List (aF×Int)):=if l.length≤100000 then some (og l)else none
end Go.Proofs.YtmnbolcmepihlaaGreat
