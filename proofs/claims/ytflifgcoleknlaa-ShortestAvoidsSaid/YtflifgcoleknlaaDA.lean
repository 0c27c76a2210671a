/- Several texts in one. No condition but those that stand in each. -/
import Derived.Test.YtflifgcoleknlaaT
/- Functions of the program, written anew. No condition but those that stand in each. -/
namespace Go.Proofs.Ytflifgcoleknlaa
open Go
set_option maxRecDepth 100000
set_option linter.all false
noncomputable section
def m_ref04_Has (l : List Int) (n : Int) : Option Bool :=
 forI l 0 (fun (j1 : Int) (e1 : Int) (Z1 : Unit → Option _) (sg : Unit) => match sg with | () => bif decide (e1 = n) then some true else Z1 ()) (fun (sg : Unit) => match sg with | () => some false) ()
def m_ref04_Insert (l : List Int) (n : Int) : Option (List Int) :=
 whl (fun (Z1 : Int → Option _) (vat_1 : Int) => jn (fun (v_1 : Bool) => bif v_1 then Z1 (w64 (vat_1 + (1:Int))) else jn (fun (v_2 : Bool) => bif v_2 then some l else bnd (sliO l (0:Int) vat_1) fun (l_1 : List Int) => bnd (appO [] l_1) fun (l_2 : List Int) => bnd (appO l_2 ([n] : List Int)) fun (l_3 : List Int) => bnd (sliO l vat_1 (l.length:Int)) fun (l_4 : List Int) => bnd (appO l_3 l_4) fun (l_5 : List Int) => some l_5) fun J2 => (bif decide (vat_1 < (l.length:Int)) then bnd (elO l vat_1) fun (e_2 : Int) => J2 (decide (e_2 = n)) else J2 false)) fun J1 => (bif decide (vat_1 < (l.length:Int)) then bnd (elO l vat_1) fun (e_1 : Int) => J1 (decide (e_1 < n)) else J1 false)) (0:Int)
def m_ref04_Ints (a : List Int) (b : List Int) : Option Bool :=
 bif !decide ((a.length:Int) = (b.length:Int)) then some false else forI a 0 (fun (j1 : Int) (e1 : Int) (Z1 : Unit → Option _) (sg : Unit) => match sg with | () => bnd (elO b (j1 : Int)) fun (e_1 : Int) => bif !decide (e1 = e_1) then some false else Z1 ()) (fun (sg : Unit) => match sg with | () => some true) ()
end
end Go.Proofs.Ytflifgcoleknlaa

/- Functions of the program, written anew. No condition but those that stand in each. -/
namespace Go.Proofs.Ytflifgcoleknlaa
open Go
set_option maxRecDepth 100000
set_option linter.all false
noncomputable section
def m_ref05_cost (n : Int) : Option Bool :=
 some ((decide ((1:Int) ≤ n)) && (decide (n ≤ (1000:Int))))
def m_ref05_has (t : GTopology) (ra1 : Int) : Option Bool :=
 forI t.Routers 0 (fun (j1 : Int) (e1 : GRouter) (Z1 : Unit → Option _) (sg : Unit) => match sg with | () => bif decide (e1.ID = ra1) then some true else Z1 ()) (fun (sg : Unit) => match sg with | () => some false) ()
def m_ref05_Price (t : GTopology) (froma1 : Int) (toa2 : Int) : Option (Int × Bool) :=
 forI t.Links 0 (fun (j1 : Int) (e1 : GLink) (Z1 : Unit → Option _) (sg : Unit) => match sg with | () => bif ((decide (e1.A = froma1)) && (decide (e1.B = toa2))) then some (e1.CostA, true) else bif ((decide (e1.B = froma1)) && (decide (e1.A = toa2))) then some (e1.CostB, true) else Z1 ()) (fun (sg : Unit) => match sg with | () => some ((0:Int), false)) ()
def m_ref05_Check (t : GTopology) : Option Int :=
 bif ((decide ((24:Int) < (t.Routers.length:Int))) || (decide ((60:Int) < (t.Links.length:Int)))) then some (3:Int) else forI t.Routers 0 (fun (j1 : Int) (e1 : GRouter) (Z1 : Unit → Option _) (sg : Unit) => match sg with | () => bif ((decide (e1.ID < (1:Int))) || (decide ((99:Int) < e1.ID))) then some (2:Int) else Z1 ()) (fun (sg : Unit) => match sg with | () => forI (List.drop 1 t.Routers) 1 (fun (j2 : Int) (e2 : GRouter) (Z2 : Unit → Option _) (sg : Unit) => match sg with | () => bnd (elO t.Routers (w64 ((j2 : Int) - (1:Int)))) fun (e_1 : GRouter) => bif decide (e2.ID ≤ e_1.ID) then some (25:Int) else Z2 ()) (fun (sg : Unit) => match sg with | () => forI t.Links 0 (fun (j3 : Int) (e3 : GLink) (Z3 : Unit → Option _) (sg : Unit) => match sg with | () => jn (fun (v_1 : Bool) => bif v_1 then some (2:Int) else Z3 ()) fun J1 => bnd (m_ref05_cost e3.CostA) fun (vx_1 : Bool) => (bif !vx_1 then J1 true else bnd (m_ref05_cost e3.CostB) fun (vx_2 : Bool) => (bif !vx_2 then J1 true else (bif decide (e3.Capacity < (0:Int)) then J1 true else J1 (decide ((1000:Int) < e3.Capacity)))))) (fun (sg : Unit) => match sg with | () => forI t.Links 0 (fun (j4 : Int) (e4 : GLink) (Z4 : Unit → Option _) (sg : Unit) => match sg with | () => jn (fun (v_2 : Bool) => bif v_2 then some (4:Int) else Z4 ()) fun J2 => bnd (m_ref05_has t e4.A) fun (vx_3 : Bool) => (bif !vx_3 then J2 true else bnd (m_ref05_has t e4.B) fun (vx_4 : Bool) => J2 (!vx_4))) (fun (sg : Unit) => match sg with | () => forI t.Links 0 (fun (j5 : Int) (e5 : GLink) (Z5 : Unit → Option _) (sg : Unit) => match sg with | () => bif decide (e5.B ≤ e5.A) then some (8:Int) else Z5 ()) (fun (sg : Unit) => match sg with | () => forI (List.drop 1 t.Links) 1 (fun (j6 : Int) (e6 : GLink) (Z6 : Unit → Option _) (sg : Unit) => match sg with | () => bnd (elO t.Links (w64 ((j6 : Int) - (1:Int)))) fun (e_2 : GLink) => bif ((decide (e6.A < e_2.A)) || ((decide (e_2.A = e6.A)) && (decide (e6.B ≤ e_2.B)))) then some (25:Int) else Z6 ()) (fun (sg : Unit) => match sg with | () => some (0:Int)) ()) ()) ()) ()) ()) ()
def m_mk_Cut (xa0 : Int) (n : Int) : Option Int :=
 bif decide (n < (1:Int)) then some (0:Int) else chk (decide (n ≠ 0)) <| jn (fun (vx_1 : Int) => some vx_1) fun J1 => bif decide (Int.tmod xa0 n < (0:Int)) then J1 (w64 ((Int.tmod xa0 n) + n)) else J1 (Int.tmod xa0 n)
def m_mk_Tape_Raw (t : GTape) : Option (Int × GTape) :=
 bif decide ((t.L.length:Int) ≤ t.At) then some ((0:Int), t) else bnd (elO t.L (w64 ((w64 (t.At + (1:Int))) - (1:Int)))) fun (e_1 : Int) => some (e_1, (GTape.mk t.L (w64 (t.At + (1:Int)))))
def m_mk_Tape_Next (t : GTape) (n : Int) : Option (Int × GTape) :=
 bnd (m_mk_Tape_Raw t) fun (vx_1 : Int × GTape) => bnd (m_mk_Cut vx_1.1 n) fun (vx_2 : Int) => some (vx_2, vx_1.2)
def m_mk_Tape_Range (t : GTape) (low : Int) (high : Int) : Option (Int × GTape) :=
 bnd (m_mk_Tape_Next t (w64 ((w64 (high - low)) + (1:Int)))) fun (vx_1 : Int × GTape) => some (w64 (low + vx_1.1), vx_1.2)
end
end Go.Proofs.Ytflifgcoleknlaa

/- Functions of the program, written anew. No condition but those that stand in each. -/
namespace Go.Proofs.Ytflifgcoleknlaa
open Go
set_option maxRecDepth 100000
set_option linter.all false
noncomputable section
def m_ref05_Has (t : GTopology) (ra1 : Int) : Option Bool :=
 bnd (m_ref05_Check t) fun (vx_1 : Int) => (bif decide (vx_1 = (0:Int)) then bnd (m_ref05_has t ra1) fun (vx_2 : Bool) => some vx_2 else some false)
def m_ref05_Cost (t : GTopology) (froma1 : Int) (toa2 : Int) : Option (Int × Bool) :=
 bnd (m_ref05_Check t) fun (vx_1 : Int) => bif !decide (vx_1 = (0:Int)) then some ((0:Int), false) else bnd (m_ref05_Price t froma1 toa2) fun (vx_2 : Int × Bool) => some (vx_2.1, vx_2.2)
def m_ref05_Near (t : GTopology) (ra1 : Int) : Option (List Int) :=
 forI t.Routers 0 (fun (j1 : Int) (e1 : GRouter) (Z1 : (List Int) → Option _) (out_1 : (List Int)) => jn (fun (out_2 : (List Int)) => Z1 out_2) fun J1 => bnd (m_ref05_Price t ra1 e1.ID) fun (vx_1 : Int × Bool) => bif vx_1.2 then bnd (appO out_1 ([e1.ID] : List Int)) fun (l_1 : List Int) => J1 l_1 else J1 out_1) (fun (out_1 : (List Int)) => some out_1) []
def m_ref05_Named (l : List GHop) (a : Int) (b : Int) : Option Bool :=
 forI l 0 (fun (j1 : Int) (e1 : GHop) (Z1 : Unit → Option _) (sg : Unit) => match sg with | () => bif (bif decide (e1.From = a) then ((decide (e1.To = b)) || ((decide (e1.From = b)) && (decide (e1.To = a)))) else ((decide (e1.From = b)) && (decide (e1.To = a)))) then some true else Z1 ()) (fun (sg : Unit) => match sg with | () => some false) ()
def m_ref05_Without (t : GTopology) (f : GFailure) : Option GTopology :=
 bnd (m_ref05_Check t) fun (vx_1 : Int) => bif !decide (vx_1 = (0:Int)) then some (GTopology.mk [] []) else forI t.Routers 0 (fun (j1 : Int) (e1 : GRouter) (Z1 : (List GRouter) → Option _) (m_1 : (List GRouter)) => jn (fun (m_2 : (List GRouter)) => Z1 m_2) fun J1 => bnd (m_ref04_Has f.Routers e1.ID) fun (vx_2 : Bool) => bif !vx_2 then bnd (appO m_1 ([e1] : List GRouter)) fun (l_1 : List GRouter) => J1 l_1 else J1 m_1) (fun (m_1 : (List GRouter)) => forI t.Links 0 (fun (j2 : Int) (e2 : GLink) (Z2 : (List GLink) → Option _) (m_3 : (List GLink)) => jn (fun (m_4 : (List GLink)) => Z2 m_4) fun J2 => jn (fun (v_1 : Bool) => bif v_1 then bnd (appO m_3 ([e2] : List GLink)) fun (l_2 : List GLink) => J2 l_2 else J2 m_3) fun J3 => bnd (m_ref04_Has f.Routers e2.A) fun (vx_3 : Bool) => (bif !vx_3 then bnd (m_ref04_Has f.Routers e2.B) fun (vx_4 : Bool) => (bif !vx_4 then bnd (m_ref05_Named f.Links e2.A e2.B) fun (vx_5 : Bool) => J3 (!vx_5) else J3 false) else J3 false)) (fun (m_3 : (List GLink)) => some (GTopology.mk m_1 m_3)) []) []
def m_ref05_Around (t : GTopology) (ra1 : Int) : Option (List Int) :=
 whl (fun (Z1 : ((List Int) × Int) → Option _) (sg : (List Int) × Int) => match sg with | (out_1, i_1) => bif decide (i_1 < (out_1.length:Int)) then bnd (elO out_1 i_1) fun (e_1 : Int) => bnd (m_ref05_Near t e_1) fun (vx_1 : (List Int)) => forI vx_1 0 (fun (j2 : Int) (e2 : Int) (Z2 : (List Int) → Option _) (out_2 : (List Int)) => jn (fun (out_3 : (List Int)) => Z2 out_3) fun J1 => bnd (m_ref04_Has out_2 e2) fun (vx_2 : Bool) => bif !vx_2 then bnd (appO out_2 ([e2] : List Int)) fun (l_1 : List Int) => J1 l_1 else J1 out_2) (fun (out_2 : (List Int)) => Z1 (out_2, w64 (i_1 + (1:Int)))) out_1 else forI out_1 0 (fun (j3 : Int) (e3 : Int) (Z3 : (List Int) → Option _) (l_2 : (List Int)) => bnd (m_ref04_Insert l_2 e3) fun (vx_3 : (List Int)) => Z3 vx_3) (fun (l_2 : (List Int)) => some l_2) []) (([ra1] : List Int), (0:Int))
def m_ref05_Connected (t : GTopology) (a : Int) (b : Int) : Option Bool :=
 bnd (m_ref05_Has t a) fun (vx_1 : Bool) => (bif vx_1 then bnd (m_ref05_Has t b) fun (vx_2 : Bool) => (bif vx_2 then bnd (m_ref05_Around t a) fun (vx_3 : (List Int)) => bnd (m_ref04_Has vx_3 b) fun (vx_4 : Bool) => some vx_4 else some false) else some false)
end
end Go.Proofs.Ytflifgcoleknlaa

/- Functions of the program, written anew. No condition but those that stand in each. -/
namespace Go.Proofs.Ytflifgcoleknlaa
open Go
set_option maxRecDepth 100000
set_option linter.all false
noncomputable section
def m_mk_Tape_Pick (t : GTape) (l : List Int) : Option (Int × GTape) :=
 bnd (m_mk_Tape_Next t (l.length:Int)) fun (vx_1 : Int × GTape) => bnd (elO l vx_1.1) fun (e_1 : Int) => some (e_1, vx_1.2)
def m_mk_Tape_One (t : GTape) (n : Int) : Option (Bool × GTape) :=
 bnd (m_mk_Tape_Next t n) fun (vx_1 : Int × GTape) => some (decide (vx_1.1 = w64 (n - (1:Int))), vx_1.2)
def m_mk_Tape_Wild (t : GTape) : Option (Int × GTape) :=
 bnd (m_mk_Tape_Pick t ([(-1:Int), (0:Int), (1:Int), (7:Int), (8:Int), (23:Int), (24:Int), (31:Int), (32:Int), (63:Int), (64:Int), (99:Int), (100:Int), (255:Int), (256:Int), (257:Int), (1000:Int), (1001:Int), (1023:Int), (1024:Int), (1000000:Int), (1000001:Int), (1099511627776:Int), (9223372036854775807:Int), (-9223372036854775808:Int)] : List Int)) fun (vx_1 : Int × GTape) => some (vx_1.1, vx_1.2)
def m_mk_order (l : List GLink) : Option (List GLink) :=
 forI l 0 (fun (j1 : Int) (e1 : GLink) (Z1 : (List GLink) → Option _) (out_1 : (List GLink)) => whl (fun (Z2 : Int → Option _) (vat_1 : Int) => jn (fun (v_1 : Bool) => bif v_1 then Z2 (w64 (vat_1 + (1:Int))) else bnd (sliO out_1 (0:Int) vat_1) fun (l_1 : List GLink) => bnd (appO [] l_1) fun (l_2 : List GLink) => bnd (appO l_2 ([e1] : List GLink)) fun (l_3 : List GLink) => bnd (sliO out_1 vat_1 (out_1.length:Int)) fun (l_4 : List GLink) => bnd (appO l_3 l_4) fun (l_5 : List GLink) => Z1 l_5) fun J1 => (bif decide (vat_1 < (out_1.length:Int)) then bnd (elO out_1 vat_1) fun (e_1 : GLink) => (bif decide (e_1.A < e1.A) then J1 true else (bif decide (e_1.A = e1.A) then J1 (decide (e_1.B < e1.B)) else J1 false)) else J1 false)) (0:Int)) (fun (out_1 : (List GLink)) => some out_1) []
def m_mk_New (l : List Int) : Option GTape :=
 jn (fun (l_1 : (List Int)) => some (GTape.mk l_1 (0:Int))) fun J1 => bif decide ((600:Int) < (l.length:Int)) then bnd (sliO l (0:Int) (600:Int)) fun (l_2 : List Int) => J1 l_2 else J1 l
def m_mk_Any (g : GTopology) : Option (List Int) :=
 forI g.Routers 0 (fun (j1 : Int) (e1 : GRouter) (Z1 : (List Int) → Option _) (out_1 : (List Int)) => bnd (appO out_1 ([e1.ID] : List Int)) fun (l_1 : List Int) => Z1 l_1) (fun (out_1 : (List Int)) => some out_1) []
def m_mk_Tape_Topology (t : GTape) (most : Int) (n : Int) : Option (GTopology × GTape) :=
 bnd (m_mk_Tape_Range t (1:Int) most) fun (vx_1 : Int × GTape) => chk (decide ((vx_1.1 + 1) ≤ 9223372036854775807)) <| forN ((vx_1.1 + 1) - (1:Int)).toNat (1:Int) (fun (j1 : Int) (Z1 : (List GRouter) → Option _) (m_1 : (List GRouter)) => bnd (appO m_1 ([(GRouter.mk (j1 : Int) true)] : List GRouter)) fun (l_1 : List GRouter) => Z1 l_1) (fun (j1 : Int) (m_1 : (List GRouter)) => bnd (m_mk_Tape_Pick vx_1.2 ([(1:Int), (2:Int), (2:Int), (5:Int)] : List Int)) fun (vx_2 : Int × GTape) => chk (decide ((vx_1.1 + 1) ≤ 9223372036854775807)) <| forN ((vx_1.1 + 1) - (2:Int)).toNat (2:Int) (fun (j2 : Int) (Z2 : ((List GLink) × (List Int) × Int) → Option _) (sg : (List GLink) × (List Int) × Int) => match sg with | (m_2, m_3, m_4) => bnd (m_mk_Tape_Range (GTape.mk m_3 m_4) (1:Int) (w64 ((j2 : Int) - (1:Int)))) fun (vx_3 : Int × GTape) => bnd (m_mk_Tape_One vx_3.2 (9:Int)) fun (vx_4 : Bool × GTape) => chk (decide ((j2 : Int) ≤ 9223372036854775807)) <| forN ((j2 : Int) - (1:Int)).toNat (1:Int) (fun (j3 : Int) (Z3 : ((List GLink) × (List Int) × Int) → Option _) (sg : (List GLink) × (List Int) × Int) => match sg with | (m_5, m_6, m_7) => jn (fun (sg : (List Int) × Int × (List GLink)) => match sg with | (m_8, m_9, m_10) => Z3 (m_10, m_8, m_9)) fun J1 => jn (fun (sg : Bool × (List Int) × Int) => match sg with | (v_1, m_11, m_12) => bif v_1 then bnd (m_mk_Tape_Range (GTape.mk m_11 m_12) (1:Int) vx_2.1) fun (vx_7 : Int × GTape) => bnd (m_mk_Tape_Range vx_7.2 (1:Int) vx_2.1) fun (vx_8 : Int × GTape) => bnd (m_mk_Tape_Next vx_8.2 (4:Int)) fun (vx_9 : Int × GTape) => bnd (appO m_5 ([(GLink.mk (j3 : Int) (j2 : Int) vx_7.1 vx_8.1 vx_9.1)] : List GLink)) fun (l_2 : List GLink) => J1 (vx_9.2.L, vx_9.2.At, l_2) else J1 (m_11, m_12, m_5)) fun J2 => (bif decide ((j3 : Int) = vx_3.1) then (bif !vx_4.1 then J2 (true, m_6, m_7) else bnd (m_mk_Tape_One (GTape.mk m_6 m_7) (3:Int)) fun (vx_5 : Bool × GTape) => J2 (vx_5.1, vx_5.2.L, vx_5.2.At)) else bnd (m_mk_Tape_One (GTape.mk m_6 m_7) (3:Int)) fun (vx_6 : Bool × GTape) => J2 (vx_6.1, vx_6.2.L, vx_6.2.At))) (fun (j3 : Int) (sg : (List GLink) × (List Int) × Int) => match sg with | (m_5, m_6, m_7) => Z2 (m_5, m_6, m_7)) (m_2, vx_4.2.L, vx_4.2.At)) (fun (j2 : Int) (sg : (List GLink) × (List Int) × Int) => match sg with | (m_2, m_3, m_4) => bnd (m_mk_order m_2) fun (vx_10 : (List GLink)) => jn (fun (sg : (List Int) × Int × (List GRouter) × (List GLink)) => match sg with | (m_13, m_14, m_15, m_16) => some ((GTopology.mk m_15 m_16), (GTape.mk m_13 m_14))) fun J3 => jn (fun (sg : Bool × (List Int) × Int) => match sg with | (v_2, m_17, m_18) => bif v_2 then bnd (m_mk_Tape_Next (GTape.mk m_17 m_18) (7:Int)) fun (vx_12 : Int × GTape) => bif decide (vx_12.1 = (0:Int)) then bnd (m_mk_Tape_Pick vx_12.2 ([(0:Int), (1:Int), (99:Int), (100:Int), (-1:Int)] : List Int)) fun (vx_13 : Int × GTape) => bnd (appO m_1 ([(GRouter.mk vx_13.1 false)] : List GRouter)) fun (l_3 : List GRouter) => J3 (vx_13.2.L, vx_13.2.At, l_3, vx_10) else bif decide (vx_12.1 = (1:Int)) then bnd (m_mk_Tape_Next vx_12.2 (4:Int)) fun (vx_14 : Int × GTape) => bnd (m_mk_Tape_Next vx_14.2 (4:Int)) fun (vx_15 : Int × GTape) => bnd (appO vx_10 ([(GLink.mk vx_14.1 vx_15.1 (1:Int) (1:Int) (0:Int))] : List GLink)) fun (l_4 : List GLink) => J3 (vx_15.2.L, vx_15.2.At, m_1, l_4) else bif decide (vx_12.1 = (2:Int)) then bif decide ((0:Int) < (vx_10.length:Int)) then bnd (m_mk_Tape_Next vx_12.2 (vx_10.length:Int)) fun (vx_16 : Int × GTape) => bnd (m_mk_Tape_Wild vx_16.2) fun (vx_17 : Int × GTape) => bnd (elO vx_10 vx_16.1) fun (e_1 : GLink) => bnd (setO vx_10 vx_16.1 (GLink.mk e_1.A e_1.B vx_17.1 e_1.CostB e_1.Capacity)) fun (l_5 : List GLink) => J3 (vx_17.2.L, vx_17.2.At, m_1, l_5) else J3 (vx_12.2.L, vx_12.2.At, m_1, vx_10) else bif decide (vx_12.1 = (3:Int)) then bif decide ((0:Int) < (vx_10.length:Int)) then bnd (m_mk_Tape_Next vx_12.2 (vx_10.length:Int)) fun (vx_18 : Int × GTape) => bnd (m_mk_Tape_Wild vx_18.2) fun (vx_19 : Int × GTape) => bnd (elO vx_10 vx_18.1) fun (e_2 : GLink) => bnd (setO vx_10 vx_18.1 (GLink.mk e_2.A e_2.B e_2.CostA vx_19.1 e_2.Capacity)) fun (l_6 : List GLink) => J3 (vx_19.2.L, vx_19.2.At, m_1, l_6) else J3 (vx_12.2.L, vx_12.2.At, m_1, vx_10) else bif decide (vx_12.1 = (4:Int)) then bif decide ((0:Int) < (vx_10.length:Int)) then bnd (m_mk_Tape_Next vx_12.2 (vx_10.length:Int)) fun (vx_20 : Int × GTape) => bnd (m_mk_Tape_Wild vx_20.2) fun (vx_21 : Int × GTape) => bnd (elO vx_10 vx_20.1) fun (e_3 : GLink) => bnd (setO vx_10 vx_20.1 (GLink.mk e_3.A e_3.B e_3.CostA e_3.CostB vx_21.1)) fun (l_7 : List GLink) => J3 (vx_21.2.L, vx_21.2.At, m_1, l_7) else J3 (vx_12.2.L, vx_12.2.At, m_1, vx_10) else bif decide (vx_12.1 = (5:Int)) then bif decide ((0:Int) < (vx_10.length:Int)) then bnd (m_mk_Tape_Next vx_12.2 (vx_10.length:Int)) fun (vx_22 : Int × GTape) => bnd (elO vx_10 vx_22.1) fun (e_4 : GLink) => bnd (appO vx_10 ([e_4] : List GLink)) fun (l_8 : List GLink) => J3 (vx_22.2.L, vx_22.2.At, m_1, l_8) else J3 (vx_12.2.L, vx_12.2.At, m_1, vx_10) else forN ((75:Int) - (50:Int)).toNat (50:Int) (fun (j4 : Int) (Z4 : (List GRouter) → Option _) (m_19 : (List GRouter)) => bnd (appO m_19 ([(GRouter.mk (j4 : Int) false)] : List GRouter)) fun (l_9 : List GRouter) => Z4 l_9) (fun (j4 : Int) (m_19 : (List GRouter)) => J3 (vx_12.2.L, vx_12.2.At, m_19, vx_10)) m_1 else J3 (m_17, m_18, m_1, vx_10)) fun J4 => (bif decide ((0:Int) < n) then bnd (m_mk_Tape_One (GTape.mk m_3 m_4) n) fun (vx_11 : Bool × GTape) => J4 (vx_11.1, vx_11.2.L, vx_11.2.At) else J4 (false, m_3, m_4))) ([], vx_2.2.L, vx_2.2.At)) []
def m_mk_Tape_Router (t : GTape) (g : GTopology) (n : Int) : Option (Int × GTape) :=
 jn (fun (sg : Bool × (List Int) × Int) => match sg with | (v_1, m_1, m_2) => bif v_1 then bnd (m_mk_Tape_Pick (GTape.mk m_1 m_2) ([(0:Int), (1:Int), (2:Int), (7:Int), (77:Int), (-1:Int)] : List Int)) fun (vx_2 : Int × GTape) => some (vx_2.1, vx_2.2) else bnd (m_mk_Tape_Next (GTape.mk m_1 m_2) (g.Routers.length:Int)) fun (vx_3 : Int × GTape) => bnd (elO g.Routers vx_3.1) fun (e_1 : GRouter) => some (e_1.ID, vx_3.2)) fun J1 => (bif decide ((0:Int) < n) then bnd (m_mk_Tape_One t n) fun (vx_1 : Bool × GTape) => (bif vx_1.1 then J1 (true, vx_1.2.L, vx_1.2.At) else J1 (decide ((g.Routers.length:Int) = (0:Int)), vx_1.2.L, vx_1.2.At)) else J1 (decide ((g.Routers.length:Int) = (0:Int)), t.L, t.At))
end
end Go.Proofs.Ytflifgcoleknlaa

/- Functions of the program, written anew. No condition but those that stand in each. -/
namespace Go.Proofs.Ytflifgcoleknlaa
open Go
set_option maxRecDepth 100000
set_option linter.all false
noncomputable section
def m_cmp_isNaN_int (xa0 : Int) : Option Bool :=
 some (!decide (xa0 = xa0))
def m_cmp_Compare_int (xa0 : Int) (y : Int) : Option Int :=
 bnd (m_cmp_isNaN_int xa0) fun (vx_1 : Bool) => bnd (m_cmp_isNaN_int y) fun (vx_2 : Bool) => bif vx_1 then bif vx_2 then some (0:Int) else some (-1:Int) else bif vx_2 then some (1:Int) else bif decide (xa0 < y) then some (-1:Int) else bif decide (y < xa0) then some (1:Int) else some (0:Int)
def m_cmp_Or_int (vals : List Int) : Option Int :=
 forI vals 0 (fun (j1 : Int) (e1 : Int) (Z1 : Unit → Option _) (sg : Unit) => match sg with | () => bif !decide (e1 = (0:Int)) then some e1 else Z1 ()) (fun (sg : Unit) => match sg with | () => some (0:Int)) ()
def m_slices_BinarySearchFunc_Lapi_Link_api_Link_api_Link (xa0 : List GLink) (target : GLink) (cmp : GLink → GLink → Option Int) : Option (Int × Bool) :=
 whl (fun (Z1 : (Int × Int) → Option _) (sg : Int × Int) => match sg with | (i_1, j_1) => bif decide (i_1 < j_1) then bnd (elO xa0 (w64 (Int.fdiv (IntKind.wrap .u64 (w64 (i_1 + j_1))) (2 ^ min (1:Int).toNat 64)))) fun (e_1 : GLink) => bnd (cmp e_1 target) fun (vx_1 : Int) => bif decide (vx_1 < (0:Int)) then Z1 (w64 ((w64 (Int.fdiv (IntKind.wrap .u64 (w64 (i_1 + j_1))) (2 ^ min (1:Int).toNat 64))) + (1:Int)), j_1) else Z1 (i_1, w64 (Int.fdiv (IntKind.wrap .u64 (w64 (i_1 + j_1))) (2 ^ min (1:Int).toNat 64))) else (bif decide (i_1 < (xa0.length:Int)) then bnd (elO xa0 i_1) fun (e_2 : GLink) => bnd (cmp e_2 target) fun (vx_2 : Int) => some (i_1, decide (vx_2 = (0:Int))) else some (i_1, false))) ((0:Int), (xa0.length:Int))
def m_slices_BinarySearchFunc_Lapi_Router_api_Router_int (xa0 : List GRouter) (target : Int) (cmp : GRouter → Int → Option Int) : Option (Int × Bool) :=
 whl (fun (Z1 : (Int × Int) → Option _) (sg : Int × Int) => match sg with | (i_1, j_1) => bif decide (i_1 < j_1) then bnd (elO xa0 (w64 (Int.fdiv (IntKind.wrap .u64 (w64 (i_1 + j_1))) (2 ^ min (1:Int).toNat 64)))) fun (e_1 : GRouter) => bnd (cmp e_1 target) fun (vx_1 : Int) => bif decide (vx_1 < (0:Int)) then Z1 (w64 ((w64 (Int.fdiv (IntKind.wrap .u64 (w64 (i_1 + j_1))) (2 ^ min (1:Int).toNat 64))) + (1:Int)), j_1) else Z1 (i_1, w64 (Int.fdiv (IntKind.wrap .u64 (w64 (i_1 + j_1))) (2 ^ min (1:Int).toNat 64))) else (bif decide (i_1 < (xa0.length:Int)) then bnd (elO xa0 i_1) fun (e_2 : GRouter) => bnd (cmp e_2 target) fun (vx_2 : Int) => some (i_1, decide (vx_2 = (0:Int))) else some (i_1, false))) ((0:Int), (xa0.length:Int))
def m_slices_IndexFunc_Lapi_Router_api_Router (sa0 : List GRouter) (f : GRouter → Option Bool) : Option Int :=
 forI sa0 0 (fun (j1 : Int) (e1 : GRouter) (Z1 : Unit → Option _) (sg : Unit) => match sg with | () => bnd (f e1) fun (vx_1 : Bool) => bif vx_1 then some (j1 : Int) else Z1 ()) (fun (sg : Unit) => match sg with | () => some (-1:Int)) ()
def m_slices_IndexFunc_Lapi_Link_api_Link (sa0 : List GLink) (f : GLink → Option Bool) : Option Int :=
 forI sa0 0 (fun (j1 : Int) (e1 : GLink) (Z1 : Unit → Option _) (sg : Unit) => match sg with | () => bnd (f e1) fun (vx_1 : Bool) => bif vx_1 then some (j1 : Int) else Z1 ()) (fun (sg : Unit) => match sg with | () => some (-1:Int)) ()
def m_slices_ContainsFunc_Lapi_Router_api_Router (sa0 : List GRouter) (f : GRouter → Option Bool) : Option Bool :=
 bnd (m_slices_IndexFunc_Lapi_Router_api_Router sa0 f) fun (vx_1 : Int) => some (decide ((0:Int) ≤ vx_1))
def m_slices_ContainsFunc_Lapi_Link_api_Link (sa0 : List GLink) (f : GLink → Option Bool) : Option Bool :=
 bnd (m_slices_IndexFunc_Lapi_Link_api_Link sa0 f) fun (vx_1 : Int) => some (decide ((0:Int) ≤ vx_1))
def m_topology_in (n : Int) (least : Int) (most : Int) : Option Bool :=
 some ((decide (least ≤ n)) && (decide (n ≤ most)))
def m_topology_compare (a : GLink) (b : GLink) : Option Int :=
 bnd (m_cmp_Compare_int a.A b.A) fun (vx_1 : Int) => bnd (m_cmp_Compare_int a.B b.B) fun (vx_2 : Int) => bnd (m_cmp_Or_int ([vx_1, vx_2] : List Int)) fun (vx_3 : Int) => some vx_3
def m_topology_byID (ra0 : GRouter) (id : Int) : Option Int :=
 bnd (m_cmp_Compare_int ra0.ID id) fun (vx_1 : Int) => some vx_1
def m_topology_Check_1 (ra0 : GRouter) : Option Bool :=
 bnd (m_topology_in ra0.ID (1:Int) (99:Int)) fun (vx_1 : Bool) => some (!vx_1)
def m_topology_Check_3 (l : GLink) : Option Bool :=
 bnd (m_topology_in l.CostA (1:Int) (1000:Int)) fun (vx_1 : Bool) => (bif !vx_1 then some true else bnd (m_topology_in l.CostB (1:Int) (1000:Int)) fun (vx_2 : Bool) => (bif !vx_2 then some true else bnd (m_topology_in l.Capacity (0:Int) (1000:Int)) fun (vx_3 : Bool) => some (!vx_3)))
def m_topology_Check_2 (id : Int) (c_0 : GTopology) : Option Bool :=
 bnd (m_slices_BinarySearchFunc_Lapi_Router_api_Router_int c_0.Routers id m_topology_byID) fun (vx_1 : Int × Bool) => some (!vx_1.2)
def m_topology_Check_4 (l : GLink) (c_0 : GTopology) : Option Bool :=
 bnd (m_topology_Check_2 l.A c_0) fun (vx_1 : Bool) => (bif vx_1 then some true else bnd (m_topology_Check_2 l.B c_0) fun (vx_2 : Bool) => some vx_2)
def m_topology_Check_5 (l : GLink) : Option Bool :=
 some (decide (l.B ≤ l.A))
def m_topology_Check (t : GTopology) : Option Int :=
 bif ((decide ((24:Int) < (t.Routers.length:Int))) || (decide ((60:Int) < (t.Links.length:Int)))) then some (3:Int) else bnd (m_slices_ContainsFunc_Lapi_Router_api_Router t.Routers m_topology_Check_1) fun (vx_1 : Bool) => bif vx_1 then some (2:Int) else forI t.Routers 0 (fun (j1 : Int) (e1 : GRouter) (Z1 : Unit → Option _) (sg : Unit) => match sg with | () => jn (fun (v_1 : Bool) => bif v_1 then some (25:Int) else Z1 ()) fun J1 => (bif decide ((0:Int) < (j1 : Int)) then bnd (elO t.Routers (w64 ((j1 : Int) - (1:Int)))) fun (e_1 : GRouter) => J1 (decide (e1.ID ≤ e_1.ID)) else J1 false)) (fun (sg : Unit) => match sg with | () => bnd (m_slices_ContainsFunc_Lapi_Link_api_Link t.Links m_topology_Check_3) fun (vx_2 : Bool) => bif vx_2 then some (2:Int) else bnd (m_slices_ContainsFunc_Lapi_Link_api_Link t.Links (fun (y0 : GLink) => m_topology_Check_4 y0 t)) fun (vx_3 : Bool) => bif vx_3 then some (4:Int) else bnd (m_slices_ContainsFunc_Lapi_Link_api_Link t.Links m_topology_Check_5) fun (vx_4 : Bool) => bif vx_4 then some (8:Int) else forI t.Links 0 (fun (j2 : Int) (e2 : GLink) (Z2 : Unit → Option _) (sg : Unit) => match sg with | () => jn (fun (v_2 : Bool) => bif v_2 then some (25:Int) else Z2 ()) fun J2 => (bif decide ((0:Int) < (j2 : Int)) then bnd (elO t.Links (w64 ((j2 : Int) - (1:Int)))) fun (e_2 : GLink) => bnd (m_topology_compare e_2 e2) fun (vx_5 : Int) => J2 (decide ((0:Int) ≤ vx_5)) else J2 false)) (fun (sg : Unit) => match sg with | () => some (0:Int)) ()) ()
def m_topology_valid (t : GTopology) : Option Bool :=
 bnd (m_topology_Check t) fun (vx_1 : Int) => some (decide (vx_1 = (0:Int)))
def m_topology_find (t : GTopology) (router : Int) : Option (GRouter × Bool) :=
 bnd (m_slices_BinarySearchFunc_Lapi_Router_api_Router_int t.Routers router m_topology_byID) fun (vx_1 : Int × Bool) => bif !vx_1.2 then some ((GRouter.mk (0:Int) false), false) else bnd (elO t.Routers vx_1.1) fun (e_1 : GRouter) => some (e_1, true)
def m_topology_Has (t : GTopology) (router : Int) : Option Bool :=
 bnd (m_topology_find t router) fun (vx_1 : GRouter × Bool) => bnd (m_topology_valid t) fun (vx_2 : Bool) => (bif vx_2 then some vx_1.2 else some false)
def m_topology_Cost (t : GTopology) (froma1 : Int) (toa2 : Int) : Option (Int × Bool) :=
 bnd (m_topology_valid t) fun (vx_1 : Bool) => bif !vx_1 then some ((0:Int), false) else bnd (m_slices_BinarySearchFunc_Lapi_Link_api_Link_api_Link t.Links (GLink.mk (if toa2 < froma1 then toa2 else froma1) (if toa2 > froma1 then toa2 else froma1) (0:Int) (0:Int) (0:Int)) m_topology_compare) fun (vx_2 : Int × Bool) => bif !vx_2.2 then some ((0:Int), false) else bif decide (froma1 < toa2) then bnd (elO t.Links vx_2.1) fun (e_1 : GLink) => some (e_1.CostA, true) else bnd (elO t.Links vx_2.1) fun (e_2 : GLink) => some (e_2.CostB, true)
end
end Go.Proofs.Ytflifgcoleknlaa

/- Functions of the program, written anew. No condition but those that stand in each. -/
namespace Go.Proofs.Ytflifgcoleknlaa
open Go
set_option maxRecDepth 100000
set_option linter.all false
noncomputable section
end
end Go.Proofs.Ytflifgcoleknlaa

/- Functions of the program, written anew. No condition but those that stand in each. -/
namespace Go.Proofs.Ytflifgcoleknlaa
open Go
set_option maxRecDepth 100000
set_option linter.all false
noncomputable section
def m_shortest_read_1 (a : GShortest_step) (b : GShortest_step) : Option Int :=
 bnd (m_cmp_Compare_int a.to_ b.to_) fun (vx_1 : Int) => some vx_1
end
end Go.Proofs.Ytflifgcoleknlaa

/- Functions of the program, written anew. No condition but those that stand in each. -/
namespace Go.Proofs.Ytflifgcoleknlaa
open Go
set_option maxRecDepth 100000
set_option linter.all false
noncomputable section
def m_shortest_valid (t : GTopology) : Option Bool :=
 bnd (m_topology_Check t) fun (vx_1 : Int) => some (decide (vx_1 = (0:Int)))
def m_shortest_read (t : GTopology) : Option GShortest_graph :=
 forI t.Routers 0 (fun (j1 : Int) (e1 : GRouter) (Z1 : ((List (Int × List GShortest_step)) × (List (Int × List GShortest_step))) → Option _) (sg : (List (Int × List GShortest_step)) × (List (Int × List GShortest_step))) => match sg with | (m_1, m_2) => Z1 (setI m_1 e1.ID [], setI m_2 e1.ID [])) (fun (sg : (List (Int × List GShortest_step)) × (List (Int × List GShortest_step))) => match sg with | (m_1, m_2) => forI t.Links 0 (fun (j2 : Int) (e2 : GLink) (Z2 : ((List (Int × List GShortest_step)) × (List (Int × List GShortest_step))) → Option _) (sg : (List (Int × List GShortest_step)) × (List (Int × List GShortest_step))) => match sg with | (m_3, m_4) => bnd (appO ((getI m_3 e2.A).getD []) ([(GShortest_step.mk e2.B e2.CostA)] : List GShortest_step)) fun (l_1 : List GShortest_step) => bnd (appO ((getI (setI m_3 e2.A l_1) e2.B).getD []) ([(GShortest_step.mk e2.A e2.CostB)] : List GShortest_step)) fun (l_2 : List GShortest_step) => bnd (appO ((getI m_4 e2.B).getD []) ([(GShortest_step.mk e2.A e2.CostA)] : List GShortest_step)) fun (l_3 : List GShortest_step) => bnd (appO ((getI (setI m_4 e2.B l_3) e2.A).getD []) ([(GShortest_step.mk e2.B e2.CostB)] : List GShortest_step)) fun (l_4 : List GShortest_step) => Z2 (setI (setI m_3 e2.A l_1) e2.B l_2, setI (setI m_4 e2.B l_3) e2.A l_4)) (fun (sg : (List (Int × List GShortest_step)) × (List (Int × List GShortest_step))) => match sg with | (m_3, m_4) => bnd (forMap m_3 (fun (n_1 : Int) (v_1 : List GShortest_step) (m_5 : (List (Int × List GShortest_step))) => chk (getI m_5 n_1).isSome <| bnd (sortM (lexK [fun x : GShortest_step => x.to_]) ((getI m_5 n_1).getD [])) fun (l_5 : List GShortest_step) => some (setI m_5 n_1 l_5)) m_3) fun (R1 : (List (Int × List GShortest_step))) => some (GShortest_graph.mk R1 m_4)) (m_1, m_2)) (([] : List (Int × List GShortest_step)), ([] : List (Int × List GShortest_step)))
def m_shortest_distances (links : List (Int × List GShortest_step)) (froma1 : Int) : Option (List (Int × Int)) :=
 bif !((getI links froma1).isSome) then some [] else jn (fun (sg : (List (Int × Int)) × (List (Int × Int))) => match sg with | (m_1, m_2) => some m_1) fun J1 => whl (fun (Z1 : ((List (Int × Int)) × (List (Int × Int))) → Option _) (sg : (List (Int × Int)) × (List (Int × Int))) => match sg with | (m_3, m_4) => bif decide ((0:Int) < (m_4.length:Int)) then bnd (forMap m_4 (fun (n_1 : Int) (v_1 : Int) (best_1 : Int) => bif ((decide (best_1 = (0:Int))) || ((decide (v_1 < ((getI m_4 best_1).getD (0:Int)))) || ((decide (v_1 = ((getI m_4 best_1).getD (0:Int)))) && (decide (n_1 < best_1))))) then some n_1 else some best_1) (0:Int)) fun (R1 : Int) => bif decide (((setI m_3 R1 ((getI m_4 R1).getD (0:Int))).length:Int) = (links.length:Int)) then J1 (setI m_3 R1 ((getI m_4 R1).getD (0:Int)), delI m_4 R1) else forI ((getI links R1).getD []) 0 (fun (j2 : Int) (e2 : GShortest_step) (Z2 : (List (Int × Int)) → Option _) (m_5 : (List (Int × Int))) => jn (fun (m_6 : (List (Int × Int))) => Z2 m_6) fun J2 => bif (getI (setI m_3 R1 ((getI m_4 R1).getD (0:Int))) e2.to_).isSome then J2 m_5 else bif ((!((getI m_5 e2.to_).isSome)) || (decide (w64 (((getI m_4 R1).getD (0:Int)) + e2.cost_) < ((getI m_5 e2.to_).getD (0:Int))))) then J2 (setI m_5 e2.to_ (w64 (((getI m_4 R1).getD (0:Int)) + e2.cost_))) else J2 m_5) (fun (m_5 : (List (Int × Int))) => Z1 (setI m_3 R1 ((getI m_4 R1).getD (0:Int)), m_5)) (delI m_4 R1) else J1 (m_3, m_4)) ([], setI [] froma1 (0:Int))
def m_shortest_graph_next (g : GShortest_graph) (costs : List (Int × Int)) (froma2 : Int) : Option (List Int) :=
 bif !((getI costs froma2).isSome) then some [] else forI ((getI g.out_ froma2).getD []) 0 (fun (j1 : Int) (e1 : GShortest_step) (Z1 : (List Int) → Option _) (out_1 : (List Int)) => jn (fun (out_2 : (List Int)) => Z1 out_2) fun J1 => bif (((getI costs e1.to_).isSome) && (decide (w64 (e1.cost_ + ((getI costs e1.to_).getD (0:Int))) = ((getI costs froma2).getD (0:Int))))) then bnd (appO out_1 ([e1.to_] : List Int)) fun (l_1 : List Int) => J1 l_1 else J1 out_1) (fun (out_1 : (List Int)) => some out_1) []
def m_shortest_Cost (t : GTopology) (froma1 : Int) (toa2 : Int) : Option (Int × Bool) :=
 bnd (m_shortest_valid t) fun (vx_1 : Bool) => bif !vx_1 then some ((0:Int), false) else bnd (m_shortest_read t) fun (vx_2 : GShortest_graph) => bnd (m_shortest_distances vx_2.out_ froma1) fun (vx_3 : (List (Int × Int))) => some (((getI vx_3 toa2).getD (0:Int)), (getI vx_3 toa2).isSome)
def m_shortest_Next (t : GTopology) (froma1 : Int) (toa2 : Int) : Option (List Int) :=
 jn (fun (v_1 : Bool) => bif v_1 then some [] else bnd (m_shortest_read t) fun (vx_2 : GShortest_graph) => bnd (m_shortest_distances vx_2.in_ toa2) fun (vx_3 : (List (Int × Int))) => bnd (m_shortest_graph_next vx_2 vx_3 froma1) fun (vx_4 : (List Int)) => some vx_4) fun J1 => bnd (m_shortest_valid t) fun (vx_1 : Bool) => (bif !vx_1 then J1 true else J1 (decide (froma1 = toa2)))
def m_shortest_Route (t : GTopology) (froma1 : Int) (toa2 : Int) : Option (List Int) :=
 jn (fun (v_1 : Bool) => bif v_1 then some [] else bnd (m_shortest_read t) fun (vx_2 : GShortest_graph) => bnd (m_shortest_distances vx_2.in_ toa2) fun (vx_3 : (List (Int × Int))) => whl (fun (Z1 : ((List Int) × Int) → Option _) (sg : (List Int) × Int) => match sg with | (out_1, vat_1) => bif !decide (vat_1 = toa2) then bnd (m_shortest_graph_next vx_2 vx_3 vat_1) fun (vx_4 : (List Int)) => bif decide ((vx_4.length:Int) = (0:Int)) then some [] else bnd (elO vx_4 (0:Int)) fun (e_1 : Int) => bnd (appO out_1 ([e_1] : List Int)) fun (l_1 : List Int) => bnd (elO l_1 (w64 ((l_1.length:Int) - (1:Int)))) fun (e_2 : Int) => Z1 (l_1, e_2) else some out_1) ([], froma1)) fun J1 => bnd (m_shortest_valid t) fun (vx_1 : Bool) => (bif !vx_1 then J1 true else J1 (decide (froma1 = toa2)))
def m_shortest_graph_paths : Nat → GShortest_graph → (List (Int × Int)) → (List (Int × Int)) → Int → Int → Option (Int × (List (Int × Int)))
 | 0, _, _, _, _, _ => none
 | n_ + 1, g, costs, counted, froma3, toa4 => bif decide (froma3 = toa4) then some ((1:Int), counted) else bif (getI counted froma3).isSome then some (((getI counted froma3).getD (0:Int)), counted) else bnd (m_shortest_graph_next g costs froma3) fun (vx_1 : (List Int)) => forI vx_1 0 (fun (j1 : Int) (e1 : Int) (Z1 : (Int × (List (Int × Int))) → Option _) (sg : Int × (List (Int × Int))) => match sg with | (n_1, m_1) => bnd (m_shortest_graph_paths n_ g costs m_1 e1 toa4) fun (vx_2 : Int × (List (Int × Int))) => Z1 ((if (w64 (n_1 + vx_2.1)) < (1000000:Int) then w64 (n_1 + vx_2.1) else (1000000:Int)), vx_2.2)) (fun (sg : Int × (List (Int × Int))) => match sg with | (n_1, m_1) => some (n_1, setI m_1 froma3 n_1)) ((0:Int), counted)
def m_shortest_Paths (t : GTopology) (froma1 : Int) (toa2 : Int) : Option Int :=
 jn (fun (v_1 : Bool) => bif v_1 then some (0:Int) else bnd (m_shortest_read t) fun (vx_3 : GShortest_graph) => bnd (m_shortest_distances vx_3.in_ toa2) fun (vx_4 : (List (Int × Int))) => bnd (m_shortest_graph_paths fuel vx_3 vx_4 [] froma1 toa2) fun (vx_5 : Int × (List (Int × Int))) => some vx_5.1) fun J1 => bnd (m_topology_Has t froma1) fun (vx_1 : Bool) => (bif !vx_1 then J1 true else bnd (m_topology_Has t toa2) fun (vx_2 : Bool) => J1 (!vx_2))
def m_shortest_Uses (t : GTopology) (froma1 : Int) (toa2 : Int) (ha3 : GHop) : Option Bool :=
 bnd (m_shortest_valid t) fun (vx_1 : Bool) => bif !vx_1 then some false else bnd (m_shortest_read t) fun (vx_2 : GShortest_graph) => bnd (m_shortest_distances vx_2.out_ froma1) fun (vx_3 : (List (Int × Int))) => bnd (m_shortest_distances vx_2.in_ toa2) fun (vx_4 : (List (Int × Int))) => bnd (m_topology_Cost t ha3.From ha3.To) fun (vx_5 : Int × Bool) => some (vx_5.2 && (((getI vx_3 ha3.From).isSome) && (((getI vx_4 ha3.To).isSome) && (decide (w64 ((w64 (((getI vx_3 ha3.From).getD (0:Int)) + vx_5.1)) + ((getI vx_4 ha3.To).getD (0:Int))) = ((getI vx_3 toa2).getD (0:Int)))))))
def m_shortest_Avoids (t : GTopology) (froma1 : Int) (toa2 : Int) (router : Int) : Option Bool :=
 bnd (m_shortest_valid t) fun (vx_1 : Bool) => bif !vx_1 then some false else bnd (m_shortest_read t) fun (vx_2 : GShortest_graph) => bnd (m_shortest_distances vx_2.out_ froma1) fun (vx_3 : (List (Int × Int))) => bnd (m_shortest_distances vx_2.in_ toa2) fun (vx_4 : (List (Int × Int))) => some (((getI vx_3 toa2).isSome) && (bif (getI vx_3 router).isSome then (bif (getI vx_4 router).isSome then !(decide (w64 (((getI vx_3 router).getD (0:Int)) + ((getI vx_4 router).getD (0:Int))) = ((getI vx_3 toa2).getD (0:Int)))) else true) else true))
end
end Go.Proofs.Ytflifgcoleknlaa

/- Functions of the program, written anew. No condition but those that stand in each. -/
namespace Go.Proofs.Ytflifgcoleknlaa
open Go
set_option maxRecDepth 100000
set_option linter.all false
noncomputable section
def m_ref06_place (t : GTopology) (ra1 : Int) : Option Int :=
 forI t.Routers 0 (fun (j1 : Int) (e1 : GRouter) (Z1 : Unit → Option _) (sg : Unit) => match sg with | () => bif decide (e1.ID = ra1) then some (j1 : Int) else Z1 ()) (fun (sg : Unit) => match sg with | () => some (0:Int)) ()
def m_ref06_To (t : GTopology) (toa1 : Int) : Option (List Int) :=
 chk (decide (0 ≤ (t.Routers.length:Int)) && decide ((t.Routers.length:Int) ≤ 4294967296)) <| whl (fun (Z1 : ((List Int) × Int) → Option _) (sg : (List Int) × Int) => match sg with | (d_1, i_1) => bif decide (i_1 < (d_1.length:Int)) then jn (fun (d_2 : (List Int)) => Z1 (d_2, w64 (i_1 + (1:Int)))) fun J1 => bnd (elO d_1 i_1) fun (e_1 : Int) => bnd (setO d_1 i_1 (1073741824:Int)) fun (l_1 : List Int) => bnd (elO t.Routers i_1) fun (e_2 : GRouter) => bif decide (e_2.ID = toa1) then bnd (elO l_1 i_1) fun (e_3 : Int) => bnd (setO l_1 i_1 (0:Int)) fun (l_2 : List Int) => J1 l_2 else J1 l_1 else whl (fun (Z2 : ((List Int) × Int) → Option _) (sg : (List Int) × Int) => match sg with | (d_3, round_1) => bif decide (round_1 < (d_3.length:Int)) then forI t.Links 0 (fun (j3 : Int) (e3 : GLink) (Z3 : (List Int) → Option _) (d_4 : (List Int)) => jn (fun (d_5 : (List Int)) => Z3 d_5) fun J2 => bnd (m_ref06_place t e3.A) fun (vx_1 : Int) => bnd (m_ref06_place t e3.B) fun (vx_2 : Int) => jn (fun (d_6 : (List Int)) => bnd (elO d_6 vx_1) fun (e_6 : Int) => bif decide (e_6 < (1073741824:Int)) then bnd (elO d_6 vx_2) fun (e_7 : Int) => bnd (setO d_6 vx_2 (if (w64 (e3.CostB + e_6)) < e_7 then w64 (e3.CostB + e_6) else e_7)) fun (l_4 : List Int) => J2 l_4 else J2 d_6) fun J3 => bnd (elO d_4 vx_2) fun (e_4 : Int) => bif decide (e_4 < (1073741824:Int)) then bnd (elO d_4 vx_1) fun (e_5 : Int) => bnd (setO d_4 vx_1 (if (w64 (e3.CostA + e_4)) < e_5 then w64 (e3.CostA + e_4) else e_5)) fun (l_3 : List Int) => J3 l_3 else J3 d_4) (fun (d_4 : (List Int)) => Z2 (d_4, w64 (round_1 + (1:Int)))) d_3 else some d_3) (d_1, (0:Int))) ((List.replicate ((t.Routers.length:Int)).toNat (0:Int)), (0:Int))
def m_ref06_At (t : GTopology) (d : List Int) (ra2 : Int) : Option Int :=
 forI t.Routers 0 (fun (j1 : Int) (e1 : GRouter) (Z1 : Unit → Option _) (sg : Unit) => match sg with | () => bif decide (e1.ID = ra2) then bnd (elO d (j1 : Int)) fun (e_1 : Int) => some e_1 else Z1 ()) (fun (sg : Unit) => match sg with | () => some (1073741824:Int)) ()
def m_ref06_Cost (t : GTopology) (froma1 : Int) (toa2 : Int) : Option (Int × Bool) :=
 jn (fun (v_1 : Bool) => bif v_1 then some ((0:Int), false) else bnd (m_ref06_To t toa2) fun (vx_3 : (List Int)) => bnd (m_ref06_At t vx_3 froma1) fun (vx_4 : Int) => bif decide (vx_4 = (1073741824:Int)) then some ((0:Int), false) else some (vx_4, true)) fun J1 => bnd (m_ref05_Has t froma1) fun (vx_1 : Bool) => (bif !vx_1 then J1 true else bnd (m_ref05_Has t toa2) fun (vx_2 : Bool) => J1 (!vx_2))
def m_ref06_Steps (t : GTopology) (d : List Int) (froma2 : Int) : Option (List Int) :=
 bnd (m_ref06_At t d froma2) fun (vx_1 : Int) => bif ((decide (vx_1 = (1073741824:Int))) || (decide (vx_1 = (0:Int)))) then some [] else bnd (m_ref05_Near t froma2) fun (vx_2 : (List Int)) => forI vx_2 0 (fun (j1 : Int) (e1 : Int) (Z1 : (List Int) → Option _) (out_1 : (List Int)) => jn (fun (out_2 : (List Int)) => Z1 out_2) fun J1 => bnd (m_ref05_Price t froma2 e1) fun (vx_3 : Int × Bool) => jn (fun (v_1 : Bool) => bif v_1 then bnd (appO out_1 ([e1] : List Int)) fun (l_1 : List Int) => J1 l_1 else J1 out_1) fun J2 => bnd (m_ref06_At t d e1) fun (vx_4 : Int) => (bif decide (vx_4 < (1073741824:Int)) then bnd (m_ref06_At t d e1) fun (vx_5 : Int) => J2 (decide (w64 (vx_3.1 + vx_5) = vx_1)) else J2 false)) (fun (out_1 : (List Int)) => some out_1) []
def m_ref06_Next (t : GTopology) (froma1 : Int) (toa2 : Int) : Option (List Int) :=
 jn (fun (v_1 : Bool) => bif v_1 then some [] else bnd (m_ref06_To t toa2) fun (vx_3 : (List Int)) => bnd (m_ref06_Steps t vx_3 froma1) fun (vx_4 : (List Int)) => some vx_4) fun J1 => bnd (m_ref05_Has t froma1) fun (vx_1 : Bool) => (bif !vx_1 then J1 true else bnd (m_ref05_Has t toa2) fun (vx_2 : Bool) => J1 (!vx_2))
def m_ref06_Route (t : GTopology) (froma1 : Int) (toa2 : Int) : Option (List Int) :=
 jn (fun (v_1 : Bool) => bif v_1 then some [] else bnd (m_ref06_To t toa2) fun (vx_3 : (List Int)) => whl (fun (Z1 : (Int × (List Int)) → Option _) (sg : Int × (List Int)) => match sg with | (vfrom_1, out_1) => bif !decide (vfrom_1 = toa2) then bnd (m_ref06_Steps t vx_3 vfrom_1) fun (vx_4 : (List Int)) => bif decide ((vx_4.length:Int) = (0:Int)) then some [] else bnd (elO vx_4 (0:Int)) fun (e_1 : Int) => bnd (appO out_1 ([e_1] : List Int)) fun (l_1 : List Int) => Z1 (e_1, l_1) else some out_1) (froma1, [])) fun J1 => bnd (m_ref05_Has t froma1) fun (vx_1 : Bool) => (bif !vx_1 then J1 true else bnd (m_ref05_Has t toa2) fun (vx_2 : Bool) => J1 (!vx_2))
def m_ref06_Paths (t : GTopology) (froma1 : Int) (toa2 : Int) : Option Int :=
 jn (fun (v_1 : Bool) => bif v_1 then some (0:Int) else bnd (m_ref06_To t toa2) fun (vx_3 : (List Int)) => chk (decide (0 ≤ (t.Routers.length:Int)) && decide ((t.Routers.length:Int) ≤ 4294967296)) <| whl (fun (Z1 : ((List Int) × Int) → Option _) (sg : (List Int) × Int) => match sg with | (n_1, round_1) => bif decide (round_1 < (n_1.length:Int)) then chk (decide (0 ≤ (n_1.length:Int)) && decide ((n_1.length:Int) ≤ 4294967296)) <| forI n_1 0 (fun (j2 : Int) (e2 : Int) (Z2 : (List Int) → Option _) (vnext_1 : (List Int)) => jn (fun (vnext_2 : (List Int)) => Z2 vnext_2) fun J2 => bnd (elO t.Routers (j2 : Int)) fun (e_1 : GRouter) => bif decide (e_1.ID = toa2) then bnd (elO vnext_1 (j2 : Int)) fun (e_2 : Int) => bnd (setO vnext_1 (j2 : Int) (1:Int)) fun (l_1 : List Int) => J2 l_1 else bnd (m_ref06_Steps t vx_3 e_1.ID) fun (vx_4 : (List Int)) => forI vx_4 0 (fun (j3 : Int) (e3 : Int) (Z3 : (List Int) → Option _) (vnext_3 : (List Int)) => bnd (elO vnext_3 (j2 : Int)) fun (e_3 : Int) => bnd (m_ref06_At t n_1 e3) fun (vx_5 : Int) => bnd (setO vnext_3 (j2 : Int) (if (w64 (e_3 + vx_5)) < (1000000:Int) then w64 (e_3 + vx_5) else (1000000:Int))) fun (l_2 : List Int) => Z3 l_2) (fun (vnext_3 : (List Int)) => J2 vnext_3) vnext_1) (fun (vnext_1 : (List Int)) => Z1 (vnext_1, w64 (round_1 + (1:Int)))) (List.replicate ((n_1.length:Int)).toNat (0:Int)) else bnd (m_ref06_At t n_1 froma1) fun (vx_6 : Int) => some vx_6) ((List.replicate ((t.Routers.length:Int)).toNat (0:Int)), (0:Int))) fun J1 => bnd (m_ref05_Has t froma1) fun (vx_1 : Bool) => (bif !vx_1 then J1 true else bnd (m_ref05_Has t toa2) fun (vx_2 : Bool) => J1 (!vx_2))
def m_ref06_Uses (t : GTopology) (froma1 : Int) (toa2 : Int) (ha3 : GHop) : Option Bool :=
 bnd (m_ref05_Cost t ha3.From ha3.To) fun (vx_1 : Int × Bool) => bnd (m_ref06_Cost t froma1 toa2) fun (vx_2 : Int × Bool) => bnd (m_ref06_Cost t froma1 ha3.From) fun (vx_3 : Int × Bool) => bnd (m_ref06_Cost t ha3.To toa2) fun (vx_4 : Int × Bool) => some (vx_1.2 && (vx_2.2 && (vx_3.2 && (vx_4.2 && (decide (w64 ((w64 (vx_3.1 + vx_1.1)) + vx_4.1) = vx_2.1))))))
def m_ref06_Avoids (t : GTopology) (froma1 : Int) (toa2 : Int) (router : Int) : Option Bool :=
 bnd (m_ref06_Cost t froma1 toa2) fun (vx_1 : Int × Bool) => bif !vx_1.2 then some false else bnd (m_ref06_Cost t froma1 router) fun (vx_2 : Int × Bool) => bnd (m_ref06_Cost t router toa2) fun (vx_3 : Int × Bool) => some ((!vx_2.2) || ((!vx_3.2) || (!decide (w64 (vx_2.1 + vx_3.1) = vx_1.1))))
end
end Go.Proofs.Ytflifgcoleknlaa
