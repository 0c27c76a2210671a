/- Functions of the program, written lz. No condition but bL aY stand in each. -/
import Derived.Test.YtdjeacigeegklaaT
import Derived.Test.YtdjeacigeegklaaDA
import Derived.Test.YtdjeacigeegklaaDL
namespace Go.Proofs.Ytdjeacigeegklaa
open Go
set_option maxRecDepth 100000
set_option linter.all false
noncomputable section
def ir (t : List Int) : Option Bool :=
 bnd (fW t) fun (ay : aQ) => bnd (ia ay (6:Int)) fun (aV : aa × aQ) => bnd (kS aV.2 aV.1) fun (bu : aM × aQ) => bnd (jg bu.2 bu.1) fun (aK : aS × aQ) => bY bu.1.List 0 (fun (j1 : Int) (e1 : ah) (Z1 : Int → Option _) (m_1 : Int) => jn (fun (m_2 : Int) => Z1 m_2) fun J1 => bif decide (e1.Kind = (2:Int)) then chk (decide (0 ≤ IntKind.wrap .u64 e1.Bit)) <| J1 (bH .andNot .u64 m_1 (IntKind.wrap .u64 ((1:Int) * 2 ^ min (IntKind.wrap .u64 e1.Bit).toNat 64))) else J1 m_1) (fun (m_1 : Int) => bnd (bn aK.2 (aV.1.aC.length:Int)) fun (cO : Int × aQ) => bnd (elO aV.1.aC cO.1) fun (e_1 : aP) => bnd (fO bu.1 aV.1 (aS.mk aK.1.Mode aK.1.bQ aK.1.Set aK.1.Length (63:Int) aK.1.cv aK.1.cw aK.1.dx m_1 aK.1.cz) e_1.ID) fun (aU : eF × Int) => bif !decide (aU.2 = (0:Int)) then (bif decide (aU.2 = (11:Int)) then bnd (eU) fun (dh : Bool) => some dh else some false) else bY aU.1.cB 0 (fun (j2 : Int) (e2 : bp) (Z2 : Unit → Option _) (sg : Unit) => match sg with | () => jn (fun (v_1 : Bool) => bif v_1 then some false else bnd (kM bu.1 e2.nD (1:Int) e2.To) fun (iG : Int × Bool) => jn (fun (v_2 : Bool) => bif v_2 then some false else Z2 ()) fun J3 => (bif !iG.2 then J3 true else chk (decide (0 ≤ IntKind.wrap .u64 iG.1)) <| J3 (decide (bH .and .u64 (Int.fdiv m_1 (2 ^ min (IntKind.wrap .u64 iG.1).toNat 64)) (1:Int) = (0:Int))))) fun J2 => (bif decide (e2.Bits = (0:Int)) then J2 true else (bif !decide (bH .andNot .u64 e2.Bits m_1 = (0:Int)) then J2 true else bnd (nh bu.1 e2.nD) fun (de : Int) => J2 (!decide (bH .and .u64 e2.Bits de = (0:Int)))))) (fun (sg : Unit) => match sg with | () => bY aU.1.cK 0 (fun (j3 : Int) (e3 : cA) (Z3 : Unit → Option _) (sg : Unit) => match sg with | () => bnd (kM bu.1 e3.aR (3:Int) e3.aR) fun (gV : Int × Bool) => jn (fun (v_3 : Bool) => bif v_3 then some false else Z3 ()) fun J4 => (bif !gV.2 then J4 true else chk (decide (0 ≤ IntKind.wrap .u64 gV.1)) <| J4 (!decide (e3.aJ.Bits = IntKind.wrap .u64 ((1:Int) * 2 ^ min (IntKind.wrap .u64 gV.1).toNat 64))))) (fun (sg : Unit) => match sg with | () => (bif decide ((aU.1.ng.length:Int) = (0:Int)) then bnd (eU) fun (mF : Bool) => some mF else some false)) ()) ()) aK.1.Bits
end
end Go.Proofs.Ytdjeacigeegklaa
