/- Functions of the program, written anew. No condition but those that stand in each. -/
import Derived.Test.YtjckghpceekieaaT
namespace Go.Proofs.Ytjckghpceekieaa
open Go
set_option maxRecDepth 100000
set_option linter.all false
def m_ref01_ValidLength (n : Int) : Option Bool :=
 some ((decide (n = (8:Int))) || ((decide (n = (16:Int))) || ((decide (n = (32:Int))) || (decide (n = (64:Int))))))
def m_ref07_inside (n : Int) (low : Int) (high : Int) : Option Bool :=
 some ((decide (low ≤ n)) && (decide (n ≤ high)))
def m_ref07_ValidClaims (l : List GClaim) : Option Bool :=
 bif decide ((8:Int) < (l.length:Int)) then some false else forI l 0 (fun (j1 : Int) (e1 : GClaim) (Z1 : Unit → Option _) (sg : Unit) => match sg with | () => jn (fun (v_1 : Bool) => bif v_1 then some false else Z1 ()) fun J1 => bnd (m_ref07_inside e1.Subdomain (0:Int) (7:Int)) fun (vx_1 : Bool) => (bif !vx_1 then J1 true else bnd (m_ref07_inside e1.ID (1:Int) (256:Int)) fun (vx_2 : Bool) => (bif !vx_2 then J1 true else bnd (m_ref01_ValidLength e1.Length) fun (vx_3 : Bool) => (bif !vx_3 then J1 true else (bif decide ((0:Int) < (j1 : Int)) then bnd (elO l (w64 ((j1 : Int) - (1:Int)))) fun (e_1 : GClaim) => J1 (decide (e1.Subdomain ≤ e_1.Subdomain)) else J1 false))))) (fun (sg : Unit) => match sg with | () => some true) ()
def m_ref07_Valid (a : GAdvert) : Option Bool :=
 jn (fun (v_1 : Bool) => bif v_1 then some false else forI a.Links 0 (fun (j1 : Int) (e1 : GReach) (Z1 : Unit → Option _) (sg : Unit) => match sg with | () => jn (fun (v_2 : Bool) => bif v_2 then some false else Z1 ()) fun J2 => bnd (m_ref07_inside e1.Neighbour (1:Int) (99:Int)) fun (vx_3 : Bool) => (bif !vx_3 then J2 true else (bif decide (e1.Neighbour = a.Router) then J2 true else bnd (m_ref07_inside e1.Cost (1:Int) (1000:Int)) fun (vx_4 : Bool) => (bif !vx_4 then J2 true else bnd (m_ref07_inside e1.Capacity (0:Int) (1000:Int)) fun (vx_5 : Bool) => (bif !vx_5 then J2 true else (bif decide ((0:Int) < (j1 : Int)) then bnd (elO a.Links (w64 ((j1 : Int) - (1:Int)))) fun (e_1 : GReach) => J2 (decide (e1.Neighbour ≤ e_1.Neighbour)) else J2 false)))))) (fun (sg : Unit) => match sg with | () => bnd (m_ref07_ValidClaims a.Claims) fun (vx_6 : Bool) => some vx_6) ()) fun J1 => bnd (m_ref07_inside a.Router (1:Int) (99:Int)) fun (vx_1 : Bool) => (bif !vx_1 then J1 true else bnd (m_ref07_inside a.Seq (1:Int) (1000000:Int)) fun (vx_2 : Bool) => (bif !vx_2 then J1 true else J1 (decide ((23:Int) < (a.Links.length:Int)))))
def m_ref07_Same (a : GAdvert) (b : GAdvert) : Option Bool :=
 bif ((!decide (a.Router = b.Router)) || ((!decide (a.Seq = b.Seq)) || ((!(a.Capable == b.Capable)) || ((!decide ((a.Links.length:Int) = (b.Links.length:Int))) || (!decide ((a.Claims.length:Int) = (b.Claims.length:Int))))))) then some false else forI a.Links 0 (fun (j1 : Int) (e1 : GReach) (Z1 : Unit → Option _) (sg : Unit) => match sg with | () => bnd (elO b.Links (j1 : Int)) fun (e_1 : GReach) => bif !(eqGReach e1 e_1) then some false else Z1 ()) (fun (sg : Unit) => match sg with | () => forI a.Claims 0 (fun (j2 : Int) (e2 : GClaim) (Z2 : Unit → Option _) (sg : Unit) => match sg with | () => bnd (elO b.Claims (j2 : Int)) fun (e_2 : GClaim) => bif !(eqGClaim e2 e_2) then some false else Z2 ()) (fun (sg : Unit) => match sg with | () => some true) ()) ()
end Go.Proofs.Ytjckghpceekieaa
