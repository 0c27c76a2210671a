/- Functions of the program, written anew. No condition but those that stand in each. -/
import Derived.Test.YtjckghpceekieaaT
import Derived.Test.YtjckghpceekieaaD1
namespace Go.Proofs.Ytjckghpceekieaa
open Go
set_option maxRecDepth 100000
set_option linter.all false
def m_mk_Tape_Pick (t : GTape) (l : List Int) : Option (Int × GTape) :=
 bnd (m_mk_Tape_Next t (l.length:Int)) fun (vx_1 : Int × GTape) => bnd (elO l vx_1.1) fun (e_1 : Int) => some (e_1, vx_1.2)
def m_mk_Tape_One (t : GTape) (n : Int) : Option (Bool × GTape) :=
 bnd (m_mk_Tape_Next t n) fun (vx_1 : Int × GTape) => some (decide (vx_1.1 = w64 (n - (1:Int))), vx_1.2)
def m_mk_Tape_Wild (t : GTape) : Option (Int × GTape) :=
 bnd (m_mk_Tape_Pick t ([(-1:Int), (0:Int), (1:Int), (7:Int), (8:Int), (23:Int), (24:Int), (31:Int), (32:Int), (63:Int), (64:Int), (99:Int), (100:Int), (255:Int), (256:Int), (257:Int), (1000:Int), (1001:Int), (1023:Int), (1024:Int), (1000000:Int), (1000001:Int), (1099511627776:Int), (9223372036854775807:Int), (-9223372036854775808:Int)] : List Int)) fun (vx_1 : Int × GTape) => some (vx_1.1, vx_1.2)
def m_mk_Tape_Length (t : GTape) : Option (Int × GTape) :=
 bnd (m_mk_Tape_Pick t ([(8:Int), (8:Int), (16:Int), (32:Int), (64:Int)] : List Int)) fun (vx_1 : Int × GTape) => some (vx_1.1, vx_1.2)
def m_mk_New (l : List Int) : Option GTape :=
 jn (fun (l_1 : (List Int)) => some (GTape.mk l_1 (0:Int))) fun J1 => bif decide ((600:Int) < (l.length:Int)) then bnd (sliO l (0:Int) (600:Int)) fun (l_2 : List Int) => J1 l_2 else J1 l
end Go.Proofs.Ytjckghpceekieaa
