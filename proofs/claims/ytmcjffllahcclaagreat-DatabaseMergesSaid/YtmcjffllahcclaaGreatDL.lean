/- Functions of the program, written anew. No condition but those that stand in each. -/
import Derived.Test.YtmcjffllahcclaaGreatT
import Derived.Test.YtmcjffllahcclaaGreatDA
namespace Go.Proofs.YtmcjffllahcclaaGreat
open Go
set_option maxRecDepth 100000
set_option linter.all false
def m_law08_awake  : Option Bool :=
 bnd (m_database_View (GDatabase.mk ([(GAdvert.mk (1:Int) (1:Int) false ([(GReach.mk (2:Int) (1:Int) (0:Int)), (GReach.mk (3:Int) (1:Int) (0:Int))] : List GReach) []), (GAdvert.mk (2:Int) (1:Int) false ([(GReach.mk (1:Int) (4:Int) (0:Int))] : List GReach) []), (GAdvert.mk (3:Int) (1:Int) false [] [])] : List GAdvert)) (1:Int)) fun (vx_1 : GTopology) => bnd (m_database_Check (GDatabase.mk ([(GAdvert.mk (1:Int) (1:Int) false ([(GReach.mk (2:Int) (1:Int) (0:Int)), (GReach.mk (3:Int) (1:Int) (0:Int))] : List GReach) []), (GAdvert.mk (2:Int) (1:Int) false ([(GReach.mk (1:Int) (4:Int) (0:Int))] : List GReach) []), (GAdvert.mk (3:Int) (1:Int) false [] [])] : List GAdvert))) fun (vx_2 : Int) => (bif decide (vx_2 = (0:Int)) then (bif decide ((vx_1.Routers.length:Int) = (2:Int)) then (bif decide ((vx_1.Links.length:Int) = (1:Int)) then bnd (elO vx_1.Links (0:Int)) fun (e_1 : GLink) => some (eqGLink e_1 (GLink.mk (1:Int) (2:Int) (1:Int) (4:Int) (0:Int))) else some false) else some false) else some false)
end Go.Proofs.YtmcjffllahcclaaGreat
