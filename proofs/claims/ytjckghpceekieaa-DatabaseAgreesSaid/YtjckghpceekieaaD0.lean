/- Functions of the program, written anew. No condition but those that stand in each. -/
import Derived.Test.YtjckghpceekieaaT
namespace Go.Proofs.Ytjckghpceekieaa
open Go
set_option maxRecDepth 100000
set_option linter.all false
def m_ref04_Has (l : List Int) (n : Int) : Option Bool :=
 forI l 0 (fun (j1 : Int) (e1 : Int) (Z1 : Unit → Option _) (sg : Unit) => match sg with | () => bif decide (e1 = n) then some true else Z1 ()) (fun (sg : Unit) => match sg with | () => some false) ()
def m_ref04_Insert (l : List Int) (n : Int) : Option (List Int) :=
 whl (fun (Z1 : Int → Option _) (vat_1 : Int) => jn (fun (v_1 : Bool) => bif v_1 then Z1 (w64 (vat_1 + (1:Int))) else jn (fun (v_2 : Bool) => bif v_2 then some l else bnd (sliO l (0:Int) vat_1) fun (l_1 : List Int) => bnd (appO [] l_1) fun (l_2 : List Int) => bnd (appO l_2 ([n] : List Int)) fun (l_3 : List Int) => bnd (sliO l vat_1 (l.length:Int)) fun (l_4 : List Int) => bnd (appO l_3 l_4) fun (l_5 : List Int) => some l_5) fun J2 => (bif decide (vat_1 < (l.length:Int)) then bnd (elO l vat_1) fun (e_2 : Int) => J2 (decide (e_2 = n)) else J2 false)) fun J1 => (bif decide (vat_1 < (l.length:Int)) then bnd (elO l vat_1) fun (e_1 : Int) => J1 (decide (e_1 < n)) else J1 false)) (0:Int)
end Go.Proofs.Ytjckghpceekieaa
