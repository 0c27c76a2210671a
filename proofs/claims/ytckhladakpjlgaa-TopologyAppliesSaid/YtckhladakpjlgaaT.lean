import Derived.Test.YtckhladakpjlgaaF
import Derived.Shelf.Sort.Plain
import Derived.Shelf.Lay
namespace Go.Proofs.Ytckhladakpjlgaa
open Go
set_option pp.maxSteps 1000000
set_option pp.deepTerms true
set_option pp.proofs true
shelf_lay Lays.n189 Nm 189 at Try as Try.lays189
#print Try.lays189_ren
#print Try.lays189
end Go.Proofs.Ytckhladakpjlgaa
