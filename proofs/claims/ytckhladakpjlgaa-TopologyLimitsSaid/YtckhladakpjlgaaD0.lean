/- Functions of the program, written anew. No condition but those that stand in each. -/
import Derived.Test.YtckhladakpjlgaaT
namespace Go.Proofs.Ytckhladakpjlgaa
open Go
set_option maxRecDepth 100000
set_option linter.all false
def m_ref04_Has (l : List Int) (n : Int) : Option Bool :=
 forI l 0 (fun (j1 : Int) (e1 : Int) (Z1 : Unit → Option _) (sg : Unit) => match sg with | () => bif decide (e1 = n) then some true else Z1 ()) (fun (sg : Unit) => match sg with | () => some false) ()
def m_ref04_Ints (a : List Int) (b : List Int) : Option Bool :=
 bif !decide ((a.length:Int) = (b.length:Int)) then some false else forI a 0 (fun (j1 : Int) (e1 : Int) (Z1 : Unit → Option _) (sg : Unit) => match sg with | () => bnd (elO b (j1 : Int)) fun (e_1 : Int) => bif !decide (e1 = e_1) then some false else Z1 ()) (fun (sg : Unit) => match sg with | () => some true) ()
end Go.Proofs.Ytckhladakpjlgaa
