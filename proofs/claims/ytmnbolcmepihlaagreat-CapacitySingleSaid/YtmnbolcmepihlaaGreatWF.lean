/- Loads of a map, and the map of uy: the words. No condition. -/
import Derived.Test.YtmnbolcmepihlaaGreatT
namespace Go.Proofs.YtmnbolcmepihlaaGreat
set_option linter.all false
open Go
def jL(m:List (aC×Int)):Option (List bQ):=if m.length≤100000 then jQ (cR [λx:bQ=>x.aD,λx:bQ=>x.To]) (m.map λp=>bQ.mk p.1.aD p.1.To p.2)else none
def qI(l:List bQ):List (aC×Int):=l.reverse.foldl (λm x=>eo bt m (aC.mk x.aD x.To) x.Count) []
def mh(l:List bQ):Option (List (aC×Int)):=if l.length≤100000 then some (qI l)else none
end Go.Proofs.YtmnbolcmepihlaaGreat
