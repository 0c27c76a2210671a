/- Functions of the program, written anew. No condition but those that stand in each. -/
import Derived.Test.YtjckghpceekieaaT
import Derived.Test.YtjckghpceekieaaD4
namespace Go.Proofs.Ytjckghpceekieaa
open Go
set_option maxRecDepth 100000
set_option linter.all false
def m_database_View_1 (a : GRouter) (b : GRouter) : Option Int :=
 bnd (m_cmp_Compare_int a.ID b.ID) fun (vx_1 : Int) => some vx_1
def m_database_View_2 (a : GLink) (b : GLink) : Option Int :=
 bnd (m_cmp_Compare_int a.A b.A) fun (vx_1 : Int) => bnd (m_cmp_Compare_int a.B b.B) fun (vx_2 : Int) => bnd (m_cmp_Or_int ([vx_1, vx_2] : List Int)) fun (vx_3 : Int) => some vx_3
end Go.Proofs.Ytjckghpceekieaa
