/- Functions of the program, written anew. No condition but those that stand in each. -/
import Derived.Test.YtckhladakpjlgaaT
namespace Go.Proofs.Ytckhladakpjlgaa
open Go
set_option maxRecDepth 100000
set_option linter.all false
def m_ref05_cost (n : Int) : Option Bool :=
 some ((decide ((1:Int) ≤ n)) && (decide (n ≤ (1000:Int))))
def m_ref05_has (t : GTopology) (ra1 : Int) : Option Bool :=
 forI t.Routers 0 (fun (j1 : Int) (e1 : GRouter) (Z1 : Unit → Option _) (sg : Unit) => match sg with | () => bif decide (e1.ID = ra1) then some true else Z1 ()) (fun (sg : Unit) => match sg with | () => some false) ()
def m_ref05_Price (t : GTopology) (froma1 : Int) (toa2 : Int) : Option (Int × Bool) :=
 forI t.Links 0 (fun (j1 : Int) (e1 : GLink) (Z1 : Unit → Option _) (sg : Unit) => match sg with | () => bif ((decide (e1.A = froma1)) && (decide (e1.B = toa2))) then some (e1.CostA, true) else bif ((decide (e1.B = froma1)) && (decide (e1.A = toa2))) then some (e1.CostB, true) else Z1 ()) (fun (sg : Unit) => match sg with | () => some ((0:Int), false)) ()
def m_ref05_Check (t : GTopology) : Option Int :=
 bif ((decide ((24:Int) < (t.Routers.length:Int))) || (decide ((60:Int) < (t.Links.length:Int)))) then some (3:Int) else forI t.Routers 0 (fun (j1 : Int) (e1 : GRouter) (Z1 : Unit → Option _) (sg : Unit) => match sg with | () => bif ((decide (e1.ID < (1:Int))) || (decide ((99:Int) < e1.ID))) then some (2:Int) else Z1 ()) (fun (sg : Unit) => match sg with | () => forI (List.drop 1 t.Routers) 1 (fun (j2 : Int) (e2 : GRouter) (Z2 : Unit → Option _) (sg : Unit) => match sg with | () => bnd (elO t.Routers (w64 ((j2 : Int) - (1:Int)))) fun (e_1 : GRouter) => bif decide (e2.ID ≤ e_1.ID) then some (25:Int) else Z2 ()) (fun (sg : Unit) => match sg with | () => forI t.Links 0 (fun (j3 : Int) (e3 : GLink) (Z3 : Unit → Option _) (sg : Unit) => match sg with | () => jn (fun (v_1 : Bool) => bif v_1 then some (2:Int) else Z3 ()) fun J1 => bnd (m_ref05_cost e3.CostA) fun (vx_1 : Bool) => (bif !vx_1 then J1 true else bnd (m_ref05_cost e3.CostB) fun (vx_2 : Bool) => (bif !vx_2 then J1 true else (bif decide (e3.Capacity < (0:Int)) then J1 true else J1 (decide ((1000:Int) < e3.Capacity)))))) (fun (sg : Unit) => match sg with | () => forI t.Links 0 (fun (j4 : Int) (e4 : GLink) (Z4 : Unit → Option _) (sg : Unit) => match sg with | () => jn (fun (v_2 : Bool) => bif v_2 then some (4:Int) else Z4 ()) fun J2 => bnd (m_ref05_has t e4.A) fun (vx_3 : Bool) => (bif !vx_3 then J2 true else bnd (m_ref05_has t e4.B) fun (vx_4 : Bool) => J2 (!vx_4))) (fun (sg : Unit) => match sg with | () => forI t.Links 0 (fun (j5 : Int) (e5 : GLink) (Z5 : Unit → Option _) (sg : Unit) => match sg with | () => bif decide (e5.B ≤ e5.A) then some (8:Int) else Z5 ()) (fun (sg : Unit) => match sg with | () => forI (List.drop 1 t.Links) 1 (fun (j6 : Int) (e6 : GLink) (Z6 : Unit → Option _) (sg : Unit) => match sg with | () => bnd (elO t.Links (w64 ((j6 : Int) - (1:Int)))) fun (e_2 : GLink) => bif ((decide (e6.A < e_2.A)) || ((decide (e_2.A = e6.A)) && (decide (e6.B ≤ e_2.B)))) then some (25:Int) else Z6 ()) (fun (sg : Unit) => match sg with | () => some (0:Int)) ()) ()) ()) ()) ()) ()
def m_mk_Cut (xa0 : Int) (n : Int) : Option Int :=
 bif decide (n < (1:Int)) then some (0:Int) else chk (decide (n ≠ 0)) <| jn (fun (vx_1 : Int) => some vx_1) fun J1 => bif decide (Int.tmod xa0 n < (0:Int)) then J1 (w64 ((Int.tmod xa0 n) + n)) else J1 (Int.tmod xa0 n)
def m_mk_Tape_Raw (t : GTape) : Option (Int × GTape) :=
 bif decide ((t.L.length:Int) ≤ t.At) then some ((0:Int), t) else bnd (elO t.L (w64 ((w64 (t.At + (1:Int))) - (1:Int)))) fun (e_1 : Int) => some (e_1, (GTape.mk t.L (w64 (t.At + (1:Int)))))
def m_mk_Tape_Next (t : GTape) (n : Int) : Option (Int × GTape) :=
 bnd (m_mk_Tape_Raw t) fun (vx_1 : Int × GTape) => bnd (m_mk_Cut vx_1.1 n) fun (vx_2 : Int) => some (vx_2, vx_1.2)
def m_mk_Tape_Range (t : GTape) (low : Int) (high : Int) : Option (Int × GTape) :=
 bnd (m_mk_Tape_Next t (w64 ((w64 (high - low)) + (1:Int)))) fun (vx_1 : Int × GTape) => some (w64 (low + vx_1.1), vx_1.2)
end Go.Proofs.Ytckhladakpjlgaa
