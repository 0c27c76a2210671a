/- Several texts in one. No condition but those that stand in each. -/
import Derived.Test.YtmfehenfoepkfaaT
/- Functions of the program, written l8. No condition but bR bw stand in each. -/
namespace Go.Proofs.Ytmfehenfoepkfaa
open Go
set_option maxRecDepth 100000
set_option linter.all false
noncomputable section
end
end Go.Proofs.Ytmfehenfoepkfaa

/- Functions of the program, written l8. No condition but bR bw stand in each. -/
namespace Go.Proofs.Ytmfehenfoepkfaa
open Go
set_option maxRecDepth 100000
set_option linter.all false
noncomputable section
def mK (n : Int) : Option Bool :=
 some ((decide ((1:Int) ≤ n)) && (decide (n ≤ (1000:Int))))
def j9 (t : aj) (ra1 : Int) : Option Bool :=
 bn t.ay 0 (fun (j1 : Int) (e1 : aN) (Z1 : Unit → Option _) (sg : Unit) => match sg with | () => bif decide (e1.ID = ra1) then some true else Z1 ()) (fun (sg : Unit) => match sg with | () => some false) ()
def jI (t : aj) (dB : Int) (eR : Int) : Option (Int × Bool) :=
 bn t.Links 0 (fun (j1 : Int) (e1 : aV) (Z1 : Unit → Option _) (sg : Unit) => match sg with | () => bif ((decide (e1.A = dB)) && (decide (e1.B = eR))) then some (e1.o5, true) else bif ((decide (e1.B = dB)) && (decide (e1.A = eR))) then some (e1.nQ, true) else Z1 ()) (fun (sg : Unit) => match sg with | () => some ((0:Int), false)) ()
def fP (t : aj) : Option Int :=
 bif ((decide ((24:Int) < (t.ay.length:Int))) || (decide ((60:Int) < (t.Links.length:Int)))) then some (3:Int) else bn t.ay 0 (fun (j1 : Int) (e1 : aN) (Z1 : Unit → Option _) (sg : Unit) => match sg with | () => bif ((decide (e1.ID < (1:Int))) || (decide ((99:Int) < e1.ID))) then some (2:Int) else Z1 ()) (fun (sg : Unit) => match sg with | () => bn (List.drop 1 t.ay) 1 (fun (j2 : Int) (e2 : aN) (Z2 : Unit → Option _) (sg : Unit) => match sg with | () => bnd (elO t.ay (w64 ((j2 : Int) - (1:Int)))) fun (e_1 : aN) => bif decide (e2.ID ≤ e_1.ID) then some (25:Int) else Z2 ()) (fun (sg : Unit) => match sg with | () => bn t.Links 0 (fun (j3 : Int) (e3 : aV) (Z3 : Unit → Option _) (sg : Unit) => match sg with | () => jn (fun (v_1 : Bool) => bif v_1 then some (2:Int) else Z3 ()) fun J1 => bnd (mK e3.o5) fun (ak : Bool) => (bif !ak then J1 true else bnd (mK e3.nQ) fun (aF : Bool) => (bif !aF then J1 true else (bif decide (e3.j8 < (0:Int)) then J1 true else J1 (decide ((1000:Int) < e3.j8)))))) (fun (sg : Unit) => match sg with | () => bn t.Links 0 (fun (j4 : Int) (e4 : aV) (Z4 : Unit → Option _) (sg : Unit) => match sg with | () => jn (fun (v_2 : Bool) => bif v_2 then some (4:Int) else Z4 ()) fun J2 => bnd (j9 t e4.A) fun (aI : Bool) => (bif !aI then J2 true else bnd (j9 t e4.B) fun (aU : Bool) => J2 (!aU))) (fun (sg : Unit) => match sg with | () => bn t.Links 0 (fun (j5 : Int) (e5 : aV) (Z5 : Unit → Option _) (sg : Unit) => match sg with | () => bif decide (e5.B ≤ e5.A) then some (8:Int) else Z5 ()) (fun (sg : Unit) => match sg with | () => bn (List.drop 1 t.Links) 1 (fun (j6 : Int) (e6 : aV) (Z6 : Unit → Option _) (sg : Unit) => match sg with | () => bnd (elO t.Links (w64 ((j6 : Int) - (1:Int)))) fun (e_2 : aV) => bif ((decide (e6.A < e_2.A)) || ((decide (e_2.A = e6.A)) && (decide (e6.B ≤ e_2.B)))) then some (25:Int) else Z6 ()) (fun (sg : Unit) => match sg with | () => some (0:Int)) ()) ()) ()) ()) ()) ()
end
end Go.Proofs.Ytmfehenfoepkfaa

/- Functions of the program, written l8. No condition but bR bw stand in each. -/
namespace Go.Proofs.Ytmfehenfoepkfaa
open Go
set_option maxRecDepth 100000
set_option linter.all false
noncomputable section
def l5 (t : aj) (ra1 : Int) : Option Bool :=
 bnd (fP t) fun (ak : Int) => (bif decide (ak = (0:Int)) then bnd (j9 t ra1) fun (aF : Bool) => some aF else some false)
def mL (t : aj) (dB : Int) (eR : Int) : Option (Int × Bool) :=
 bnd (fP t) fun (ak : Int) => bif !decide (ak = (0:Int)) then some ((0:Int), false) else bnd (jI t dB eR) fun (aF : Int × Bool) => some (aF.1, aF.2)
def mM (t : aj) (ra1 : Int) : Option (List Int) :=
 bn t.ay 0 (fun (j1 : Int) (e1 : aN) (Z1 : (List Int) → Option _) (bO : (List Int)) => jn (fun (cV : (List Int)) => Z1 cV) fun J1 => bnd (jI t ra1 e1.ID) fun (ak : Int × Bool) => bif ak.2 then bnd (dV bO ([e1.ID] : List Int)) fun (l_1 : List Int) => J1 l_1 else J1 bO) (fun (bO : (List Int)) => some bO) []
def iq (t : aj) (ra1 : Int) : Option (List Int) :=
 bnd (fP t) fun (ak : Int) => bif !decide (ak = (0:Int)) then some [] else bnd (mM t ra1) fun (aF : (List Int)) => some aF
end
end Go.Proofs.Ytmfehenfoepkfaa

/- Functions of the program, written l8. No condition but bR bw stand in each. -/
namespace Go.Proofs.Ytmfehenfoepkfaa
open Go
set_option maxRecDepth 100000
set_option linter.all false
noncomputable section
end
end Go.Proofs.Ytmfehenfoepkfaa

/- Functions of the program, written l8. No condition but bR bw stand in each. -/
namespace Go.Proofs.Ytmfehenfoepkfaa
open Go
set_option maxRecDepth 100000
set_option linter.all false
noncomputable section
def fH (xa0 : Int) : Option Bool :=
 some (!decide (xa0 = xa0))
def dY (xa0 : Int) (y : Int) : Option Int :=
 bnd (fH xa0) fun (ak : Bool) => bnd (fH y) fun (aF : Bool) => bif ak then bif aF then some (0:Int) else some (-1:Int) else bif aF then some (1:Int) else bif decide (xa0 < y) then some (-1:Int) else bif decide (y < xa0) then some (1:Int) else some (0:Int)
def ji (vals : List Int) : Option Int :=
 bn vals 0 (fun (j1 : Int) (e1 : Int) (Z1 : Unit → Option _) (sg : Unit) => match sg with | () => bif !decide (e1 = (0:Int)) then some e1 else Z1 ()) (fun (sg : Unit) => match sg with | () => some (0:Int)) ()
def cE (sa0 : List ai) (f : ai → Option Bool) : Option Int :=
 bn sa0 0 (fun (j1 : Int) (e1 : ai) (Z1 : Unit → Option _) (sg : Unit) => match sg with | () => bnd (f e1) fun (ak : Bool) => bif ak then some (j1 : Int) else Z1 ()) (fun (sg : Unit) => match sg with | () => some (-1:Int)) ()
def bQ (xa0 : List aN) (target : Int) (cmp : aN → Int → Option Int) : Option (Int × Bool) :=
 whl (fun (Z1 : (Int × Int) → Option _) (sg : Int × Int) => match sg with | (i_1, j_1) => bif decide (i_1 < j_1) then bnd (elO xa0 (w64 (Int.fdiv (IntKind.wrap .u64 (w64 (i_1 + j_1))) (2 ^ min (1:Int).toNat 64)))) fun (e_1 : aN) => bnd (cmp e_1 target) fun (ak : Int) => bif decide (ak < (0:Int)) then Z1 (w64 ((w64 (Int.fdiv (IntKind.wrap .u64 (w64 (i_1 + j_1))) (2 ^ min (1:Int).toNat 64))) + (1:Int)), j_1) else Z1 (i_1, w64 (Int.fdiv (IntKind.wrap .u64 (w64 (i_1 + j_1))) (2 ^ min (1:Int).toNat 64))) else (bif decide (i_1 < (xa0.length:Int)) then bnd (elO xa0 i_1) fun (e_2 : aN) => bnd (cmp e_2 target) fun (aF : Int) => some (i_1, decide (aF = (0:Int))) else some (i_1, false))) ((0:Int), (xa0.length:Int))
def b9 (xa0 : List aV) (target : aV) (cmp : aV → aV → Option Int) : Option (Int × Bool) :=
 whl (fun (Z1 : (Int × Int) → Option _) (sg : Int × Int) => match sg with | (i_1, j_1) => bif decide (i_1 < j_1) then bnd (elO xa0 (w64 (Int.fdiv (IntKind.wrap .u64 (w64 (i_1 + j_1))) (2 ^ min (1:Int).toNat 64)))) fun (e_1 : aV) => bnd (cmp e_1 target) fun (ak : Int) => bif decide (ak < (0:Int)) then Z1 (w64 ((w64 (Int.fdiv (IntKind.wrap .u64 (w64 (i_1 + j_1))) (2 ^ min (1:Int).toNat 64))) + (1:Int)), j_1) else Z1 (i_1, w64 (Int.fdiv (IntKind.wrap .u64 (w64 (i_1 + j_1))) (2 ^ min (1:Int).toNat 64))) else (bif decide (i_1 < (xa0.length:Int)) then bnd (elO xa0 i_1) fun (e_2 : aV) => bnd (cmp e_2 target) fun (aF : Int) => some (i_1, decide (aF = (0:Int))) else some (i_1, false))) ((0:Int), (xa0.length:Int))
def cU (sa0 : List aN) (f : aN → Option Bool) : Option Int :=
 bn sa0 0 (fun (j1 : Int) (e1 : aN) (Z1 : Unit → Option _) (sg : Unit) => match sg with | () => bnd (f e1) fun (ak : Bool) => bif ak then some (j1 : Int) else Z1 ()) (fun (sg : Unit) => match sg with | () => some (-1:Int)) ()
def dF (sa0 : List aV) (f : aV → Option Bool) : Option Int :=
 bn sa0 0 (fun (j1 : Int) (e1 : aV) (Z1 : Unit → Option _) (sg : Unit) => match sg with | () => bnd (f e1) fun (ak : Bool) => bif ak then some (j1 : Int) else Z1 ()) (fun (sg : Unit) => match sg with | () => some (-1:Int)) ()
def ct (sa0 : List aN) (f : aN → Option Bool) : Option Bool :=
 bnd (cU sa0 f) fun (ak : Int) => some (decide ((0:Int) ≤ ak))
def b8 (sa0 : List aV) (f : aV → Option Bool) : Option Bool :=
 bnd (dF sa0 f) fun (ak : Int) => some (decide ((0:Int) ≤ ak))
def gI (n : Int) (least : Int) (most : Int) : Option Bool :=
 some ((decide (least ≤ n)) && (decide (n ≤ most)))
def gi (a : aV) (b : aV) : Option Int :=
 bnd (dY a.A b.A) fun (ak : Int) => bnd (dY a.B b.B) fun (aF : Int) => bnd (ji ([ak, aF] : List Int)) fun (aI : Int) => some aI
def iE (ra0 : aN) (id : Int) : Option Int :=
 bnd (dY ra0.ID id) fun (ak : Int) => some ak
def jN (ra0 : aN) : Option Bool :=
 bnd (gI ra0.ID (1:Int) (99:Int)) fun (ak : Bool) => some (!ak)
def ir (l : aV) : Option Bool :=
 bnd (gI l.o5 (1:Int) (1000:Int)) fun (ak : Bool) => (bif !ak then some true else bnd (gI l.nQ (1:Int) (1000:Int)) fun (aF : Bool) => (bif !aF then some true else bnd (gI l.j8 (0:Int) (1000:Int)) fun (aI : Bool) => some (!aI)))
def gj (id : Int) (c_0 : aj) : Option Bool :=
 bnd (bQ c_0.ay id iE) fun (ak : Int × Bool) => some (!ak.2)
def jO (l : aV) (c_0 : aj) : Option Bool :=
 bnd (gj l.A c_0) fun (ak : Bool) => (bif ak then some true else bnd (gj l.B c_0) fun (aF : Bool) => some aF)
def jP (l : aV) : Option Bool :=
 some (decide (l.B ≤ l.A))
def fU (t : aj) : Option Int :=
 bif ((decide ((24:Int) < (t.ay.length:Int))) || (decide ((60:Int) < (t.Links.length:Int)))) then some (3:Int) else bnd (ct t.ay jN) fun (ak : Bool) => bif ak then some (2:Int) else bn t.ay 0 (fun (j1 : Int) (e1 : aN) (Z1 : Unit → Option _) (sg : Unit) => match sg with | () => jn (fun (v_1 : Bool) => bif v_1 then some (25:Int) else Z1 ()) fun J1 => (bif decide ((0:Int) < (j1 : Int)) then bnd (elO t.ay (w64 ((j1 : Int) - (1:Int)))) fun (e_1 : aN) => J1 (decide (e1.ID ≤ e_1.ID)) else J1 false)) (fun (sg : Unit) => match sg with | () => bnd (b8 t.Links ir) fun (aF : Bool) => bif aF then some (2:Int) else bnd (b8 t.Links (fun (y0 : aV) => jO y0 t)) fun (aI : Bool) => bif aI then some (4:Int) else bnd (b8 t.Links jP) fun (aU : Bool) => bif aU then some (8:Int) else bn t.Links 0 (fun (j2 : Int) (e2 : aV) (Z2 : Unit → Option _) (sg : Unit) => match sg with | () => jn (fun (v_2 : Bool) => bif v_2 then some (25:Int) else Z2 ()) fun J2 => (bif decide ((0:Int) < (j2 : Int)) then bnd (elO t.Links (w64 ((j2 : Int) - (1:Int)))) fun (e_2 : aV) => bnd (gi e_2 e2) fun (aX : Int) => J2 (decide ((0:Int) ≤ aX)) else J2 false)) (fun (sg : Unit) => match sg with | () => some (0:Int)) ()) ()
def fV (t : aj) : Option Bool :=
 bnd (fU t) fun (ak : Int) => some (decide (ak = (0:Int)))
def jQ (t : aj) (bz : Int) : Option (aN × Bool) :=
 bnd (bQ t.ay bz iE) fun (ak : Int × Bool) => bif !ak.2 then some ((aN.mk (0:Int) false), false) else bnd (elO t.ay ak.1) fun (e_1 : aN) => some (e_1, true)
def iZ (t : aj) (bz : Int) : Option Bool :=
 bnd (jQ t bz) fun (ak : aN × Bool) => bnd (fV t) fun (aF : Bool) => (bif aF then some ak.2 else some false)
def jR (t : aj) (dB : Int) (eR : Int) : Option (Int × Bool) :=
 bnd (fV t) fun (ak : Bool) => bif !ak then some ((0:Int), false) else bnd (b9 t.Links (aV.mk (if eR < dB then eR else dB) (if eR > dB then eR else dB) (0:Int) (0:Int) (0:Int)) gi) fun (aF : Int × Bool) => bif !aF.2 then some ((0:Int), false) else bif decide (dB < eR) then bnd (elO t.Links aF.1) fun (e_1 : aV) => some (e_1.o5, true) else bnd (elO t.Links aF.1) fun (e_2 : aV) => some (e_2.nQ, true)
end
end Go.Proofs.Ytmfehenfoepkfaa

/- Functions of the program, written l8. No condition but bR bw stand in each. -/
namespace Go.Proofs.Ytmfehenfoepkfaa
open Go
set_option maxRecDepth 100000
set_option linter.all false
noncomputable section
def nB (xa0 : Int) : Option Int :=
 jn (fun (sg : Int × Int) => match sg with | (ak, n_1) => jn (fun (sg : Int × Int) => match sg with | (aF, n_2) => jn (fun (sg : Int × Int) => match sg with | (aI, n_3) => bnd (ixS (⟨#[0, 1, 2, 2, 3, 3, 3, 3, 4, 4, 4, 4, 4, 4, 4, 4, 5, 5, 5, 5, 5, 5, 5, 5, 5, 5, 5, 5, 5, 5, 5, 5, 6, 6, 6, 6, 6, 6, 6, 6, 6, 6, 6, 6, 6, 6, 6, 6, 6, 6, 6, 6, 6, 6, 6, 6, 6, 6, 6, 6, 6, 6, 6, 6, 7, 7, 7, 7, 7, 7, 7, 7, 7, 7, 7, 7, 7, 7, 7, 7, 7, 7, 7, 7, 7, 7, 7, 7, 7, 7, 7, 7, 7, 7, 7, 7, 7, 7, 7, 7, 7, 7, 7, 7, 7, 7, 7, 7, 7, 7, 7, 7, 7, 7, 7, 7, 7, 7, 7, 7, 7, 7, 7, 7, 7, 7, 7, 7, 8, 8, 8, 8, 8, 8, 8, 8, 8, 8, 8, 8, 8, 8, 8, 8, 8, 8, 8, 8, 8, 8, 8, 8, 8, 8, 8, 8, 8, 8, 8, 8, 8, 8, 8, 8, 8, 8, 8, 8, 8, 8, 8, 8, 8, 8, 8, 8, 8, 8, 8, 8, 8, 8, 8, 8, 8, 8, 8, 8, 8, 8, 8, 8, 8, 8, 8, 8, 8, 8, 8, 8, 8, 8, 8, 8, 8, 8, 8, 8, 8, 8, 8, 8, 8, 8, 8, 8, 8, 8, 8, 8, 8, 8, 8, 8, 8, 8, 8, 8, 8, 8, 8, 8, 8, 8, 8, 8, 8, 8, 8, 8, 8, 8, 8, 8, 8, 8, 8, 8, 8, 8, 8, 8, 8, 8, 8, 8]⟩ : ByteArray) (IntKind.wrap .u8 aI)) fun (b_1 : UInt8) => some (w64 (n_3 + (w64 (b_1.toNat : Int))))) fun J3 => bif decide ((256:Int) ≤ aF) then J3 (Int.fdiv aF (2 ^ min (8:Int).toNat 64), w64 (n_2 + (8:Int))) else J3 (aF, n_2)) fun J2 => bif decide ((65536:Int) ≤ ak) then J2 (Int.fdiv ak (2 ^ min (16:Int).toNat 64), w64 (n_1 + (16:Int))) else J2 (ak, n_1)) fun J1 => bif decide ((4294967296:Int) ≤ xa0) then J1 (Int.fdiv xa0 (2 ^ min (32:Int).toNat 64), (32:Int)) else J1 (xa0, (0:Int))
def o6 (xa0 : Int) : Option Int :=
 bnd (nB xa0) fun (ak : Int) => some ak
def eZ  : Option Unit :=
 whl (fun (Z1 : Unit → Option _) (sg : Unit) => match sg with | () => some ()) ()
def gw (limit : Int) : Option Unit :=
 whl (fun (Z1 : Unit → Option _) (sg : Unit) => match sg with | () => bnd (eZ) fun (ak : Unit) => some ()) ()
def lW  : Option Unit :=
 bnd (o6 (0:Int)) fun (ak : Int) => bnd (gw ak) fun (aF : Unit) => some ()
end
end Go.Proofs.Ytmfehenfoepkfaa

/- Functions of the program, written l8. No condition but bR bw stand in each. -/
namespace Go.Proofs.Ytmfehenfoepkfaa
open Go
set_option maxRecDepth 100000
set_option linter.all false
noncomputable section
def gl (t : aj) (bz : Int) : Option (List Int) :=
 bn t.Links 0 (fun (j1 : Int) (e1 : aV) (Z1 : (List Int) → Option _) (bO : (List Int)) => jn (fun (cV : (List Int)) => Z1 cV) fun J1 => bif decide (bz = e1.A) then bnd (dV bO ([e1.B] : List Int)) fun (l_1 : List Int) => J1 l_1 else bif decide (bz = e1.B) then bnd (dV bO ([e1.A] : List Int)) fun (l_2 : List Int) => J1 l_2 else J1 bO) (fun (bO : (List Int)) => chk (decide (bO.length < 4611686018427387904)) <| some (gA bO)) []
def gm (t : aj) (bz : Int) : Option (List Int) :=
 bnd (fV t) fun (ak : Bool) => bif !ak then some [] else bnd (gl t bz) fun (aF : (List Int)) => some aF
end
end Go.Proofs.Ytmfehenfoepkfaa

/- Functions of the program, written l8. No condition but bR bw stand in each. -/
namespace Go.Proofs.Ytmfehenfoepkfaa
open Go
set_option maxRecDepth 100000
set_option linter.all false
noncomputable section
def eO (t : List Int) : Option aC :=
 bnd (l9 t (0:Int) (if (2000:Int) < (t.length:Int) then (2000:Int) else (t.length:Int))) fun (l_1 : List Int) => some (aC.mk l_1 (0:Int))
def fN (t : aC) : Option (Int × aC) :=
 bif decide ((t.L.length:Int) ≤ t.At) then some ((0:Int), t) else bnd (elO t.L (w64 ((w64 (t.At + (1:Int))) - (1:Int)))) fun (e_1 : Int) => some (e_1, (aC.mk t.L (w64 (t.At + (1:Int)))))
def iO (xa0 : Int) (n : Int) : Option Int :=
 bif decide (n < (1:Int)) then some (0:Int) else chk (decide (n ≠ 0)) <| jn (fun (ak : Int) => some ak) fun J1 => bif decide (Int.tmod xa0 n < (0:Int)) then J1 (w64 ((Int.tmod xa0 n) + n)) else J1 (Int.tmod xa0 n)
def aK (t : aC) (n : Int) : Option (Int × aC) :=
 bnd (fN t) fun (ak : Int × aC) => bnd (iO ak.1 n) fun (aF : Int) => some (aF, ak.2)
def cn (t : aC) (lo : Int) (hi : Int) : Option (Int × aC) :=
 bnd (aK t (w64 ((w64 (hi - lo)) + (1:Int)))) fun (ak : Int × aC) => some (w64 (lo + ak.1), ak.2)
def bx (t : aC) (l : List Int) : Option (Int × aC) :=
 bnd (aK t (l.length:Int)) fun (ak : Int × aC) => bnd (elO l ak.1) fun (e_1 : Int) => some (e_1, ak.2)
def dg (l : List Int) (xa1 : Int) : Option Bool :=
 bn l 0 (fun (j1 : Int) (e1 : Int) (Z1 : Unit → Option _) (sg : Unit) => match sg with | () => bif decide (e1 = xa1) then some true else Z1 ()) (fun (sg : Unit) => match sg with | () => some false) ()
def gH (l : List Int) (xa1 : Int) : Option (List Int) :=
 whl (fun (Z1 : Int → Option _) (k_1 : Int) => jn (fun (v_1 : Bool) => bif v_1 then Z1 (w64 (k_1 + (1:Int))) else jn (fun (v_2 : Bool) => bif v_2 then some l else bnd (l9 l k_1 (l.length:Int)) fun (l_1 : List Int) => bnd (dV ([xa1] : List Int) l_1) fun (l_2 : List Int) => bnd (l9 l (0:Int) k_1) fun (l_3 : List Int) => bnd (dV l_3 l_2) fun (l_4 : List Int) => some l_4) fun J2 => (bif decide (k_1 < (l.length:Int)) then bnd (elO l k_1) fun (e_2 : Int) => J2 (decide (e_2 = xa1)) else J2 false)) fun J1 => (bif decide (k_1 < (l.length:Int)) then bnd (elO l k_1) fun (e_1 : Int) => J1 (decide (e_1 < xa1)) else J1 false)) (0:Int)
def gn (a : List Int) (b : List Int) : Option Bool :=
 bif !decide ((a.length:Int) = (b.length:Int)) then some false else bn a 0 (fun (j1 : Int) (e1 : Int) (Z1 : Unit → Option _) (sg : Unit) => match sg with | () => bnd (elO b (j1 : Int)) fun (e_1 : Int) => bif !decide (e1 = e_1) then some false else Z1 ()) (fun (sg : Unit) => match sg with | () => some true) ()
end
end Go.Proofs.Ytmfehenfoepkfaa

/- Functions of the program, written l8. No condition but bR bw stand in each. -/
namespace Go.Proofs.Ytmfehenfoepkfaa
open Go
set_option maxRecDepth 100000
set_option linter.all false
noncomputable section
def ja (n : Int) : Option Bool :=
 some ((decide (n = (8:Int))) || ((decide (n = (16:Int))) || ((decide (n = (32:Int))) || (decide (n = (64:Int))))))
def fq (n : Int) : Option Bool :=
 some ((decide ((1:Int) ≤ n)) && (decide (n ≤ (99:Int))))
def eE (e : aB) : Option Int :=
 bnd (ja e.Length) fun (ak : Bool) => bn e.List 0 (fun (j1 : Int) (e1 : ai) (Z1 : Bool → Option _) (lM : Bool) => (bif lM then (bif decide ((0:Int) ≤ e1.Bit) then (bif decide (e1.Bit < e.Length) then bnd (fq e1.aT) fun (aF : Bool) => (bif aF then bnd (fq e1.To) fun (aI : Bool) => Z1 aI else Z1 false) else Z1 false) else Z1 false) else Z1 false)) (fun (lM : Bool) => bif !lM then some (2:Int) else bn e.List 0 (fun (j2 : Int) (e2 : ai) (Z2 : Unit → Option _) (sg : Unit) => match sg with | () => bif ((decide (e2.Kind < (1:Int))) || (decide ((3:Int) < e2.Kind))) then some (1:Int) else Z2 ()) (fun (sg : Unit) => match sg with | () => bn e.List 0 (fun (j3 : Int) (e3 : ai) (Z3 : Unit → Option _) (sg : Unit) => match sg with | () => bif !((decide (e3.To = e3.aT)) == (decide (e3.Kind = (3:Int)))) then some (8:Int) else Z3 ()) (fun (sg : Unit) => match sg with | () => bn (List.drop 1 e.List) 1 (fun (j4 : Int) (e4 : ai) (Z4 : Unit → Option _) (sg : Unit) => match sg with | () => bnd (elO e.List (w64 ((j4 : Int) - (1:Int)))) fun (e_1 : ai) => bif decide (e4.Bit ≤ e_1.Bit) then some (25:Int) else Z4 ()) (fun (sg : Unit) => match sg with | () => bn e.List 0 (fun (j5 : Int) (e5 : ai) (Z5 : Unit → Option _) (sg : Unit) => match sg with | () => bnd (l9 e.List (0:Int) (j5 : Int)) fun (l_1 : List ai) => bn l_1 0 (fun (j6 : Int) (e6 : ai) (Z6 : Unit → Option _) (sg : Unit) => match sg with | () => bif ((decide (e5.aT = e6.aT)) && ((decide (e5.Kind = e6.Kind)) && (decide (e5.To = e6.To)))) then some (5:Int) else Z6 ()) (fun (sg : Unit) => match sg with | () => Z5 ()) ()) (fun (sg : Unit) => match sg with | () => some (0:Int)) ()) ()) ()) ()) ak
def mN (e : aB) (t : aj) : Option Int :=
 bnd (eE e) fun (ak : Int) => bif !decide (ak = (0:Int)) then some ak else bnd (fP t) fun (aF : Int) => bif !decide (aF = (0:Int)) then some (1:Int) else bn e.List 0 (fun (j1 : Int) (e1 : ai) (Z1 : Unit → Option _) (sg : Unit) => match sg with | () => jn (fun (v_1 : Bool) => bif v_1 then some (4:Int) else Z1 ()) fun J1 => bnd (l5 t e1.aT) fun (aI : Bool) => (bif !aI then J1 true else bnd (l5 t e1.To) fun (aU : Bool) => J1 (!aU))) (fun (sg : Unit) => match sg with | () => bn e.List 0 (fun (j2 : Int) (e2 : ai) (Z2 : Unit → Option _) (sg : Unit) => match sg with | () => bnd (mL t e2.aT e2.To) fun (aX : Int × Bool) => bif ((decide (e2.Kind = (1:Int))) && (!aX.2)) then some (8:Int) else Z2 ()) (fun (sg : Unit) => match sg with | () => some (0:Int)) ()) ()
def l6 (e : aB) (ra1 : Int) : Option Int :=
 jn (fun (bO : Int) => some bO) fun J1 => bnd (eE e) fun (ak : Int) => bif decide (ak = (0:Int)) then bn e.List 0 (fun (j1 : Int) (e1 : ai) (Z1 : Int → Option _) (cV : Int) => jn (fun (vX : Int) => Z1 vX) fun J2 => bif decide (e1.aT = ra1) then chk (decide (0 ≤ IntKind.wrap .u64 e1.Bit)) <| J2 (cg .or .u64 cV (IntKind.wrap .u64 ((1:Int) * 2 ^ min (IntKind.wrap .u64 e1.Bit).toNat 64))) else J2 cV) (fun (cV : Int) => J1 cV) (0:Int) else J1 (0:Int)
def iu (e : aB) (ra1 : Int) (kind : Int) (lN : Int) : Option (Int × Bool) :=
 jn (fun (sg : Unit) => match sg with | () => some ((0:Int), false)) fun J1 => bnd (eE e) fun (ak : Int) => bif decide (ak = (0:Int)) then bn e.List 0 (fun (j1 : Int) (e1 : ai) (Z1 : Unit → Option _) (sg : Unit) => match sg with | () => bif ((decide (e1.aT = ra1)) && ((decide (e1.Kind = kind)) && (decide (e1.To = lN)))) then some (e1.Bit, true) else Z1 ()) (fun (sg : Unit) => match sg with | () => J1 ()) () else J1 ()
def kP (t : aj) (n : Int) : Option (aB × Int) :=
 bnd (fP t) fun (ak : Int) => bif !decide (ak = (0:Int)) then some ((aB.mk (0:Int) []), (1:Int)) else bnd (ja n) fun (aF : Bool) => bif !aF then some ((aB.mk (0:Int) []), (2:Int)) else bn t.ay 0 (fun (j1 : Int) (e1 : aN) (Z1 : (List ai) → Option _) (m_1 : (List ai)) => bnd (dV m_1 ([(ai.mk (m_1.length:Int) e1.ID (3:Int) e1.ID)] : List ai)) fun (l_1 : List ai) => bnd (iq t e1.ID) fun (aI : (List Int)) => bn aI 0 (fun (j2 : Int) (e2 : Int) (Z2 : (List ai) → Option _) (m_2 : (List ai)) => bnd (dV m_2 ([(ai.mk (m_2.length:Int) e1.ID (1:Int) e2)] : List ai)) fun (l_2 : List ai) => Z2 l_2) (fun (m_2 : (List ai)) => Z1 m_2) l_1) (fun (m_1 : (List ai)) => bif decide (n < (m_1.length:Int)) then some ((aB.mk (0:Int) []), (3:Int)) else some ((aB.mk n m_1), (0:Int))) []
def fE (t : bB) : Option Int :=
 bnd (fq t.bL) fun (ak : Bool) => bn t.Links 0 (fun (j1 : Int) (e1 : bq) (Z1 : Bool → Option _) (tZ : Bool) => (bif tZ then bnd (fq e1.bJ) fun (aF : Bool) => (bif aF then bnd (fq e1.To) fun (aI : Bool) => Z1 aI else Z1 false) else Z1 false)) (fun (tZ : Bool) => bif !tZ then some (2:Int) else bn (List.drop 1 t.Links) 1 (fun (j2 : Int) (e2 : bq) (Z2 : Unit → Option _) (sg : Unit) => match sg with | () => bnd (elO t.Links (w64 ((j2 : Int) - (1:Int)))) fun (e_1 : bq) => bif ((decide (e2.bJ < e_1.bJ)) || ((decide (e_1.bJ = e2.bJ)) && (decide (e2.To ≤ e_1.To)))) then some (25:Int) else Z2 ()) (fun (sg : Unit) => match sg with | () => bn t.Links 0 (fun (j3 : Int) (e3 : bq) (Z3 : Unit → Option _) (sg : Unit) => match sg with | () => bnd (l9 t.Links (0:Int) (j3 : Int)) fun (l_1 : List bq) => bn l_1 0 (fun (j4 : Int) (e4 : bq) (Z4 : Unit → Option _) (sg : Unit) => match sg with | () => bif decide (e4.To = e3.To) then some (8:Int) else Z4 ()) (fun (sg : Unit) => match sg with | () => bif decide (e3.To = t.bL) then some (8:Int) else Z3 ()) ()) (fun (sg : Unit) => match sg with | () => whl (fun (Z5 : ((List Int) × Bool) → Option _) (sg : (List Int) × Bool) => match sg with | (mO, oA) => bif oA then bn t.Links 0 (fun (j6 : Int) (e6 : bq) (Z6 : ((List Int) × Bool) → Option _) (sg : (List Int) × Bool) => match sg with | (fI, iw) => jn (fun (sg : (List Int) × Bool) => match sg with | (oB, oC) => Z6 (oB, oC)) fun J1 => jn (fun (v_1 : Bool) => bif v_1 then bnd (dV fI ([e6.To] : List Int)) fun (l_2 : List Int) => J1 (l_2, true) else J1 (fI, iw)) fun J2 => bnd (dg fI e6.bJ) fun (aU : Bool) => (bif aU then bnd (dg fI e6.To) fun (aX : Bool) => J2 (!aX) else J2 false)) (fun (sg : (List Int) × Bool) => match sg with | (fI, iw) => Z5 (fI, iw)) (mO, false) else bn t.Links 0 (fun (j7 : Int) (e7 : bq) (Z7 : Unit → Option _) (sg : Unit) => match sg with | () => bnd (dg mO e7.bJ) fun (aS : Bool) => bif !aS then some (10:Int) else Z7 ()) (fun (sg : Unit) => match sg with | () => some (0:Int)) ()) (([t.bL] : List Int), true)) ()) ()) ak
def eV (t : bB) : Option (List Int) :=
 bnd (fE t) fun (ak : Int) => bif !decide (ak = (0:Int)) then some [] else bn t.Links 0 (fun (j1 : Int) (e1 : bq) (Z1 : (List Int) → Option _) (bO : (List Int)) => bnd (gH bO e1.To) fun (aF : (List Int)) => Z1 aF) (fun (bO : (List Int)) => some bO) ([t.bL] : List Int)
def iP (l : List Int) : Option Bool :=
 bn (List.drop 1 l) 1 (fun (j1 : Int) (e1 : Int) (Z1 : Unit → Option _) (sg : Unit) => match sg with | () => bnd (elO l (w64 ((j1 : Int) - (1:Int)))) fun (e_1 : Int) => bif decide (e1 ≤ e_1) then some false else Z1 ()) (fun (sg : Unit) => match sg with | () => some true) ()
def mP (e : aB) (t : bB) (receivers : List Int) : Option (Int × Int) :=
 bnd (eE e) fun (ak : Int) => bif !decide (ak = (0:Int)) then some ((0:Int), ak) else bnd (fE t) fun (aF : Int) => bif !decide (aF = (0:Int)) then some ((0:Int), aF) else bnd (iP receivers) fun (aI : Bool) => bif !aI then some ((0:Int), (25:Int)) else bnd (eV t) fun (aU : (List Int)) => bn receivers 0 (fun (j1 : Int) (e1 : Int) (Z1 : Unit → Option _) (sg : Unit) => match sg with | () => bnd (dg aU e1) fun (aX : Bool) => bif !aX then some ((0:Int), (8:Int)) else Z1 ()) (fun (sg : Unit) => match sg with | () => bn t.Links 0 (fun (j2 : Int) (e2 : bq) (Z2 : Int → Option _) (bO : Int) => bnd (iu e e2.bJ (1:Int) e2.To) fun (aS : Int × Bool) => bif !aS.2 then some ((0:Int), (4:Int)) else chk (decide (0 ≤ IntKind.wrap .u64 aS.1)) <| Z2 (cg .or .u64 bO (IntKind.wrap .u64 ((1:Int) * 2 ^ min (IntKind.wrap .u64 aS.1).toNat 64)))) (fun (bO : Int) => bn receivers 0 (fun (j3 : Int) (e3 : Int) (Z3 : Int → Option _) (cV : Int) => bnd (iu e e3 (3:Int) e3) fun (bh : Int × Bool) => bif !bh.2 then some ((0:Int), (4:Int)) else chk (decide (0 ≤ IntKind.wrap .u64 bh.1)) <| Z3 (cg .or .u64 cV (IntKind.wrap .u64 ((1:Int) * 2 ^ min (IntKind.wrap .u64 bh.1).toNat 64)))) (fun (cV : Int) => some (cV, (0:Int))) bO) (0:Int)) ()
def kQ (a : aB) (b : aB) : Option Bool :=
 bif ((!decide (a.Length = b.Length)) || (!decide ((a.List.length:Int) = (b.List.length:Int)))) then some false else bn a.List 0 (fun (j1 : Int) (e1 : ai) (Z1 : Unit → Option _) (sg : Unit) => match sg with | () => bnd (elO b.List (j1 : Int)) fun (e_1 : ai) => bif !(ee e1 e_1) then some false else Z1 ()) (fun (sg : Unit) => match sg with | () => some true) ()
def jj (a : bB) (b : bB) : Option Bool :=
 bif ((!decide (a.bL = b.bL)) || (!decide ((a.Links.length:Int) = (b.Links.length:Int)))) then some false else bn a.Links 0 (fun (j1 : Int) (e1 : bq) (Z1 : Unit → Option _) (sg : Unit) => match sg with | () => bnd (elO b.Links (j1 : Int)) fun (e_1 : bq) => bif !(rL e1 e_1) then some false else Z1 ()) (fun (sg : Unit) => match sg with | () => some true) ()
end
end Go.Proofs.Ytmfehenfoepkfaa

/- Functions of the program, written l8. No condition but bR bw stand in each. -/
namespace Go.Proofs.Ytmfehenfoepkfaa
open Go
set_option maxRecDepth 100000
set_option linter.all false
noncomputable section
def fu (t : aC) (most : Int) : Option (aj × aC) :=
 bnd (cn t (1:Int) most) fun (ak : Int × aC) => chk (decide (ak.1 ≤ 9223372036854775807)) <| jh (ak.1 - (0:Int)).toNat (0:Int) (fun (j1 : Int) (Z1 : (Int × (List aN) × (List Int) × Int) → Option _) (sg : Int × (List aN) × (List Int) × Int) => match sg with | (sP, m_1, m_2, m_3) => bnd (bx (aC.mk m_2 m_3) ([(1:Int), (1:Int), (1:Int), (2:Int), (5:Int)] : List Int)) fun (aF : Int × aC) => bnd (dV m_1 ([(aN.mk (w64 (sP + aF.1)) true)] : List aN)) fun (l_1 : List aN) => Z1 (w64 (sP + aF.1), l_1, aF.2.L, aF.2.At)) (fun (j1 : Int) (sg : Int × (List aN) × (List Int) × Int) => match sg with | (sP, m_1, m_2, m_3) => chk (decide (0 < ak.1) && decide (ak.1 ≤ 4294967296)) <| chk (decide (((List.replicate ak.1.toNat [] : List (List Bool)).length:Int) ≤ 9223372036854775807)) <| jh (((List.replicate ak.1.toNat [] : List (List Bool)).length:Int) - (0:Int)).toNat (0:Int) (fun (j2 : Int) (Z2 : (List (List Bool)) → Option _) (m_4 : (List (List Bool))) => chk (decide (0 ≤ ak.1) && decide (ak.1 ≤ 4294967296)) <| bnd (elO m_4 (j2 : Int)) fun (e_1 : List Bool) => Z2 (List.set m_4 (j2 : Int).toNat (List.replicate (ak.1).toNat false))) (fun (j2 : Int) (m_4 : (List (List Bool))) => chk (decide (ak.1 ≤ 9223372036854775807)) <| jh (ak.1 - (1:Int)).toNat (1:Int) (fun (j3 : Int) (Z3 : ((List Int) × Int × (List (List Bool))) → Option _) (sg : (List Int) × Int × (List (List Bool))) => match sg with | (m_5, m_6, m_7) => jn (fun (sg : (List (List Bool)) × (List Int) × Int) => match sg with | (m_8, m_9, qq) => Z3 (m_9, qq, m_8)) fun J1 => bnd (aK (aC.mk m_5 m_6) (12:Int)) fun (aI : Int × aC) => bif decide (aI.1 < (11:Int)) then bnd (aK aI.2 (j3 : Int)) fun (aU : Int × aC) => bnd (elO m_7 aU.1) fun (e_2 : List Bool) => bnd (elO e_2 (j3 : Int)) fun (e_3 : Bool) => bnd (lF e_2 (j3 : Int) true) fun (l_2 : List Bool) => J1 ((List.set m_7 aU.1.toNat l_2), aU.2.L, aU.2.At) else J1 (m_7, aI.2.L, aI.2.At)) (fun (j3 : Int) (sg : (List Int) × Int × (List (List Bool))) => match sg with | (m_5, m_6, m_7) => bnd (aK (aC.mk m_5 m_6) (w64 (ak.1 + (2:Int)))) fun (aX : Int × aC) => whl (fun (Z4 : (Int × (List Int) × Int × (List (List Bool))) → Option _) (sg : Int × (List Int) × Int × (List (List Bool))) => match sg with | (i_1, qs, gU, cL) => bif decide ((0:Int) < i_1) then jn (fun (sg : (List (List Bool)) × (List Int) × Int) => match sg with | (lP, pT, pU) => Z4 (w64 (i_1 - (1:Int)), pT, pU, lP)) fun J2 => bnd (aK (aC.mk qs gU) ak.1) fun (aS : Int × aC) => bnd (aK aS.2 ak.1) fun (bh : Int × aC) => bif !decide (aS.1 = bh.1) then bnd (elO cL (if bh.1 < aS.1 then bh.1 else aS.1)) fun (e_4 : List Bool) => bnd (elO e_4 (if bh.1 > aS.1 then bh.1 else aS.1)) fun (e_5 : Bool) => bnd (lF e_4 (if bh.1 > aS.1 then bh.1 else aS.1) true) fun (l_3 : List Bool) => J2 ((List.set cL (if bh.1 < aS.1 then bh.1 else aS.1).toNat l_3), bh.2.L, bh.2.At) else J2 (cL, bh.2.L, bh.2.At) else bnd (aK (aC.mk qs gU) (3:Int)) fun (cC : Int × aC) => chk (decide ((cL.length:Int) ≤ 9223372036854775807)) <| jh ((cL.length:Int) - (0:Int)).toNat (0:Int) (fun (j5 : Int) (Z5 : ((List aV) × (List Int) × Int) → Option _) (sg : (List aV) × (List Int) × Int) => match sg with | (nY, kR, kS) => chk (decide ((cL.length:Int) ≤ 9223372036854775807)) <| jh ((cL.length:Int) - (0:Int)).toNat (0:Int) (fun (j6 : Int) (Z6 : ((List aV) × (List Int) × Int) → Option _) (sg : (List aV) × (List Int) × Int) => match sg with | (jE, kT, mQ) => jn (fun (sg : (List Int) × Int × (List aV)) => match sg with | (qt, qu, nD) => Z6 (nD, qt, qu)) fun J3 => bnd (elO cL (j5 : Int)) fun (e_6 : List Bool) => bnd (elO e_6 (j6 : Int)) fun (e_7 : Bool) => bif !e_7 then J3 (kT, mQ, jE) else bnd (elO m_1 (j5 : Int)) fun (e_8 : aN) => bnd (elO m_1 (j6 : Int)) fun (e_9 : aN) => bnd (bx (aC.mk kT mQ) ([(0:Int), (1:Int), (2:Int), (3:Int), (5:Int), (10:Int), (1000:Int)] : List Int)) fun (cI : Int × aC) => jn (fun (sg : (List Int) × Int × Int × Int) => match sg with | (nE, kU, aan, aao) => bnd (dV jE ([(aV.mk e_8.ID e_9.ID aan aao cI.1)] : List aV)) fun (l_4 : List aV) => J3 (nE, kU, l_4)) fun J4 => bif !(decide (cC.1 = (0:Int))) then bnd (cn cI.2 (1:Int) (20:Int)) fun (gr : Int × aC) => bnd (bx gr.2 ([(1:Int), (2:Int), (3:Int), gr.1, (1000:Int)] : List Int)) fun (eM : Int × aC) => bnd (cn eM.2 (1:Int) (20:Int)) fun (dZ : Int × aC) => bnd (bx dZ.2 ([eM.1, eM.1, dZ.1] : List Int)) fun (cW : Int × aC) => J4 (cW.2.L, cW.2.At, eM.1, cW.1) else J4 (cI.2.L, cI.2.At, (1:Int), (1:Int))) (fun (j6 : Int) (sg : (List aV) × (List Int) × Int) => match sg with | (jE, kT, mQ) => Z5 (jE, kT, mQ)) (nY, kR, kS)) (fun (j5 : Int) (sg : (List aV) × (List Int) × Int) => match sg with | (nY, kR, kS) => some ((aj.mk m_1 nY), (aC.mk kR kS))) ([], cC.2.L, cC.2.At)) (aX.1, aX.2.L, aX.2.At, m_7)) (m_2, m_3, m_4)) (List.replicate ak.1.toNat [] : List (List Bool))) ((0:Int), [], ak.2.L, ak.2.At)
def jk (t : aC) (p : aj) : Option (Int × aC) :=
 jn (fun (sg : Bool × (List Int) × Int) => match sg with | (v_1, m_1, m_2) => bif v_1 then bnd (bx (aC.mk m_1 m_2) ([(0:Int), (98:Int), (100:Int)] : List Int)) fun (aF : Int × aC) => some (aF.1, aF.2) else bnd (aK (aC.mk m_1 m_2) (p.ay.length:Int)) fun (aI : Int × aC) => bnd (elO p.ay aI.1) fun (e_1 : aN) => some (e_1.ID, aI.2)) fun J1 => (bif decide ((p.ay.length:Int) = (0:Int)) then J1 (true, t.L, t.At) else bnd (aK t (40:Int)) fun (ak : Int × aC) => J1 (decide (ak.1 = (39:Int)), ak.2.L, ak.2.At))
def o8 (t : aC) (p : aj) (n : Int) : Option ((List Int) × aC) :=
 bnd (aK t (w64 (n + (1:Int)))) fun (ak : Int × aC) => whl (fun (Z1 : ((List Int) × Int × (List Int) × Int) → Option _) (sg : (List Int) × Int × (List Int) × Int) => match sg with | (bO, i_1, m_1, m_2) => bif ((decide ((0:Int) < i_1)) && (decide ((0:Int) < (p.ay.length:Int)))) then bnd (aK (aC.mk m_1 m_2) (p.ay.length:Int)) fun (aF : Int × aC) => bnd (elO p.ay aF.1) fun (e_1 : aN) => bnd (gH bO e_1.ID) fun (aI : (List Int)) => Z1 (aI, w64 (i_1 - (1:Int)), aF.2.L, aF.2.At) else some (bO, (aC.mk m_1 m_2))) ([], ak.1, ak.2.L, ak.2.At)
def qc (l : List bq) (ha1 : bq) : Option (List bq) :=
 whl (fun (Z1 : Int → Option _) (k_1 : Int) => jn (fun (v_1 : Bool) => bif v_1 then Z1 (w64 (k_1 + (1:Int))) else bnd (l9 l k_1 (l.length:Int)) fun (l_1 : List bq) => bnd (dV ([ha1] : List bq) l_1) fun (l_2 : List bq) => bnd (l9 l (0:Int) k_1) fun (l_3 : List bq) => bnd (dV l_3 l_2) fun (l_4 : List bq) => some l_4) fun J1 => (bif decide (k_1 < (l.length:Int)) then bnd (elO l k_1) fun (e_1 : bq) => (bif decide (e_1.bJ < ha1.bJ) then J1 true else (bif decide (e_1.bJ = ha1.bJ) then J1 (decide (e_1.To < ha1.To)) else J1 false)) else J1 false)) (0:Int)
def lQ (t : aC) (p : aj) (root : Int) : Option (bB × aC) :=
 bnd (aK t (w64 ((w64 ((2:Int) * (p.Links.length:Int))) + (1:Int)))) fun (ak : Int × aC) => whl (fun (Z1 : ((List Int) × Int × (List bq) × (List Int) × Int) → Option _) (sg : (List Int) × Int × (List bq) × (List Int) × Int) => match sg with | (nS, i_1, m_1, m_2, m_3) => bif decide ((0:Int) < i_1) then jn (fun (sg : (List Int) × (List Int) × Int × (List bq)) => match sg with | (vY, m_4, m_5, m_6) => Z1 (vY, w64 (i_1 - (1:Int)), m_6, m_4, m_5)) fun J1 => bnd (aK (aC.mk m_2 m_3) (p.Links.length:Int)) fun (aF : Int × aC) => bnd (elO p.Links aF.1) fun (e_1 : aV) => jn (fun (sg : Int × Int) => match sg with | (m_7, m_8) => jn (fun (v_1 : Bool) => bif v_1 then bnd (dV nS ([m_8] : List Int)) fun (l_1 : List Int) => bnd (qc m_1 (bq.mk m_7 m_8)) fun (aS : (List bq)) => J1 (l_1, aF.2.L, aF.2.At, aS) else J1 (nS, aF.2.L, aF.2.At, m_1)) fun J3 => bnd (dg nS m_7) fun (aU : Bool) => (bif aU then bnd (dg nS m_8) fun (aX : Bool) => J3 (!aX) else J3 false)) fun J2 => bnd (dg nS e_1.B) fun (aI : Bool) => bif aI then J2 (e_1.B, e_1.A) else J2 (e_1.A, e_1.B) else some ((bB.mk root m_1), (aC.mk m_2 m_3))) (([root] : List Int), ak.1, [], ak.2.L, ak.2.At)
def jl (t : aC) (p : aj) : Option (aB × aC) :=
 bnd (bx t ([(64:Int), (64:Int), (32:Int), (16:Int)] : List Int)) fun (ak : Int × aC) => bnd (kP p (64:Int)) fun (aF : aB × Int) => jn (fun (sg : Bool × (List Int) × Int) => match sg with | (v_1, m_1, m_2) => bif v_1 then some (aF.1, (aC.mk m_1 m_2)) else bn p.ay 0 (fun (j1 : Int) (e1 : aN) (Z1 : ((List ai) × (List Int) × Int) → Option _) (sg : (List ai) × (List Int) × Int) => match sg with | (m_3, m_4, m_5) => jn (fun (sg : (List Int) × Int × (List ai)) => match sg with | (m_6, m_7, m_8) => Z1 (m_8, m_6, m_7)) fun J2 => jn (fun (sg : (List Int) × Int × (List ai)) => match sg with | (m_9, qq, qs) => bn p.Links 0 (fun (j2 : Int) (e2 : aV) (Z2 : ((List ai) × (List Int) × Int) → Option _) (sg : (List ai) × (List Int) × Int) => match sg with | (gU, cL, lP) => jn (fun (sg : (List Int) × Int × (List ai)) => match sg with | (pT, pU, nY) => Z2 (nY, pT, pU)) fun J4 => jn (fun (vZ : Int) => jn (fun (uc : Int) => jn (fun (sg : Bool × (List Int) × Int) => match sg with | (v_2, kR, kS) => bif v_2 then bnd (dV gU ([(ai.mk (gU.length:Int) e1.ID (1:Int) uc)] : List ai)) fun (l_2 : List ai) => J4 (kR, kS, l_2) else J4 (kR, kS, gU)) fun J7 => (bif !decide (uc = (0:Int)) then bnd (aK (aC.mk cL lP) (5:Int)) fun (aX : Int × aC) => J7 (decide ((0:Int) < aX.1), aX.2.L, aX.2.At) else J7 (false, cL, lP))) fun J6 => bif decide (e2.B = e1.ID) then J6 e2.A else J6 vZ) fun J5 => bif decide (e2.A = e1.ID) then J5 e2.B else J5 (0:Int)) (fun (sg : (List ai) × (List Int) × Int) => match sg with | (gU, cL, lP) => bnd (aK (aC.mk cL lP) (p.ay.length:Int)) fun (aS : Int × aC) => bnd (elO p.ay aS.1) fun (e_1 : aN) => jn (fun (sg : Bool × (List Int) × Int) => match sg with | (v_3, jE, kT) => bif v_3 then bnd (dV gU ([(ai.mk (gU.length:Int) e1.ID (2:Int) e_1.ID)] : List ai)) fun (l_3 : List ai) => J2 (jE, kT, l_3) else J2 (jE, kT, gU)) fun J8 => (bif !decide (e_1.ID = e1.ID) then bnd (aK aS.2 (3:Int)) fun (bh : Int × aC) => J8 (decide (bh.1 = (0:Int)), bh.2.L, bh.2.At) else J8 (false, aS.2.L, aS.2.At))) (qs, m_9, qq)) fun J3 => bnd (aK (aC.mk m_4 m_5) (5:Int)) fun (aU : Int × aC) => bif decide ((0:Int) < aU.1) then bnd (dV m_3 ([(ai.mk (m_3.length:Int) e1.ID (3:Int) e1.ID)] : List ai)) fun (l_1 : List ai) => J3 (aU.2.L, aU.2.At, l_1) else J3 (aU.2.L, aU.2.At, m_3)) (fun (sg : (List ai) × (List Int) × Int) => match sg with | (m_3, m_4, m_5) => bnd (l9 m_3 (0:Int) (if ak.1 < (m_3.length:Int) then ak.1 else (m_3.length:Int))) fun (l_4 : List ai) => jn (fun (sg : (List Int) × Int × (List ai)) => match sg with | (mQ, qt, qu) => some ((aB.mk ak.1 qu), (aC.mk mQ qt))) fun J9 => jn (fun (sg : Bool × (List Int) × Int) => match sg with | (v_4, nD, nE) => bif v_4 then bn l_4 0 (fun (j3 : Int) (e3 : ai) (Z3 : (List ai) → Option _) (kU : (List ai)) => bnd (elO kU (j3 : Int)) fun (e_2 : ai) => bnd (lF kU (j3 : Int) (ai.mk (w64 (e_2.Bit + (w64 (ak.1 - (kU.length:Int))))) e_2.aT e_2.Kind e_2.To)) fun (l_5 : List ai) => Z3 l_5) (fun (kU : (List ai)) => J9 (nD, nE, kU)) l_4 else J9 (nD, nE, l_4)) fun J10 => bnd (aK (aC.mk m_4 m_5) (3:Int)) fun (cC : Int × aC) => (bif decide (cC.1 = (0:Int)) then J10 (decide ((l_4.length:Int) < ak.1), cC.2.L, cC.2.At) else J10 (false, cC.2.L, cC.2.At))) ([], m_1, m_2)) fun J1 => (bif decide (aF.2 = (0:Int)) then bnd (aK ak.2 (2:Int)) fun (aI : Int × aC) => J1 (decide (aI.1 = (0:Int)), aI.2.L, aI.2.At) else J1 (false, ak.2.L, ak.2.At))
def gp (t : aC) (p : aj) : Option (aj × aC) :=
 bnd (dV ([] : List aN) p.ay) fun (l_1 : List aN) => bnd (dV ([] : List aV) p.Links) fun (l_2 : List aV) => jn (fun (sg : (List Int) × Int × (List aN) × (List aV)) => match sg with | (m_1, m_2, m_3, m_4) => some ((aj.mk m_3 m_4), (aC.mk m_1 m_2))) fun J1 => bnd (aK t (4:Int)) fun (ak : Int × aC) => bif decide (ak.1 = (0:Int)) then bnd (bx ak.2 ([(0:Int), (1:Int), (100:Int)] : List Int)) fun (aF : Int × aC) => bnd (dV l_1 ([(aN.mk aF.1 false)] : List aN)) fun (l_3 : List aN) => J1 (aF.2.L, aF.2.At, l_3, l_2) else bif decide (ak.1 = (1:Int)) then bif decide ((0:Int) < (l_2.length:Int)) then bnd (aK ak.2 (l_2.length:Int)) fun (aI : Int × aC) => bnd (bx aI.2 ([(0:Int), (1001:Int)] : List Int)) fun (aU : Int × aC) => bnd (elO l_2 aI.1) fun (e_1 : aV) => bnd (lF l_2 aI.1 (aV.mk e_1.A e_1.B aU.1 e_1.nQ e_1.j8)) fun (l_4 : List aV) => J1 (aU.2.L, aU.2.At, l_1, l_4) else J1 (ak.2.L, ak.2.At, l_1, l_2) else bif decide (ak.1 = (2:Int)) then bif decide ((0:Int) < (l_2.length:Int)) then bnd (elO l_2 (0:Int)) fun (e_2 : aV) => bnd (dV l_2 ([e_2] : List aV)) fun (l_5 : List aV) => J1 (ak.2.L, ak.2.At, l_1, l_5) else J1 (ak.2.L, ak.2.At, l_1, l_2) else bif decide ((0:Int) < (l_1.length:Int)) then bnd (l9 l_1 (1:Int) (l_1.length:Int)) fun (l_6 : List aN) => J1 (ak.2.L, ak.2.At, l_6, l_2) else J1 (ak.2.L, ak.2.At, l_1, l_2)
def jy (p : aj) : Option Bool :=
 some ((decide ((p.ay.length:Int) ≤ (30:Int))) && (decide ((p.Links.length:Int) ≤ (70:Int))))
end
end Go.Proofs.Ytmfehenfoepkfaa

/- Functions of the program, written l8. No condition but bR bw stand in each. -/
namespace Go.Proofs.Ytmfehenfoepkfaa
open Go
set_option maxRecDepth 100000
set_option linter.all false
noncomputable section
def iz (xa0 : Int) : Option Bool :=
 some (!decide (xa0 = xa0))
def kV (xa0 : Int) (y : Int) : Option Bool :=
 bnd (fH xa0) fun (ak : Bool) => (bif ak then bnd (fH y) fun (aF : Bool) => (bif !aF then some true else some (decide (xa0 < y))) else some (decide (xa0 < y)))
def iA (vals : List Int) : Option Int :=
 bn vals 0 (fun (j1 : Int) (e1 : Int) (Z1 : Unit → Option _) (sg : Unit) => match sg with | () => bif !decide (e1 = (0:Int)) then some e1 else Z1 ()) (fun (sg : Unit) => match sg with | () => some (0:Int)) ()
def dM (xa0 : List Int) (target : Int) : Option (Int × Bool) :=
 whl (fun (Z1 : (Int × Int) → Option _) (sg : Int × Int) => match sg with | (i_1, j_1) => bif decide (i_1 < j_1) then bnd (elO xa0 (w64 (Int.fdiv (IntKind.wrap .u64 (w64 (i_1 + j_1))) (2 ^ min (1:Int).toNat 64)))) fun (e_1 : Int) => bnd (kV e_1 target) fun (ak : Bool) => bif ak then Z1 (w64 ((w64 (Int.fdiv (IntKind.wrap .u64 (w64 (i_1 + j_1))) (2 ^ min (1:Int).toNat 64))) + (1:Int)), j_1) else Z1 (i_1, w64 (Int.fdiv (IntKind.wrap .u64 (w64 (i_1 + j_1))) (2 ^ min (1:Int).toNat 64))) else (bif decide (i_1 < (xa0.length:Int)) then bnd (elO xa0 i_1) fun (e_2 : Int) => (bif decide (e_2 = target) then some (i_1, true) else bnd (iz e_2) fun (aF : Bool) => (bif aF then bnd (iz target) fun (aI : Bool) => some (i_1, aI) else some (i_1, false))) else some (i_1, false))) ((0:Int), (xa0.length:Int))
def cQ (s1 : List ai) (s2 : List ai) : Option Bool :=
 bif !decide ((s1.length:Int) = (s2.length:Int)) then some false else bn s1 0 (fun (j1 : Int) (e1 : ai) (Z1 : Unit → Option _) (sg : Unit) => match sg with | () => bnd (elO s2 (j1 : Int)) fun (e_1 : ai) => bif !(ee e1 e_1) then some false else Z1 ()) (fun (sg : Unit) => match sg with | () => some true) ()
def fA (n : Int) : Option Bool :=
 some ((decide (n = (8:Int))) || ((decide (n = (16:Int))) || ((decide (n = (32:Int))) || (decide (n = (64:Int))))))
def dN (n : Int) : Option Bool :=
 some ((decide ((1:Int) ≤ n)) && (decide (n ≤ (99:Int))))
def gV (a : ai) : Option aG :=
 some (aG.mk a.aT a.Kind a.To)
def cZ (e : aB) : Option Int :=
 bnd (fA e.Length) fun (ak : Bool) => bif !ak then some (2:Int) else bn e.List 0 (fun (j1 : Int) (e1 : ai) (Z1 : Unit → Option _) (sg : Unit) => match sg with | () => jn (fun (v_1 : Bool) => bif v_1 then some (2:Int) else Z1 ()) fun J1 => (bif decide (e1.Bit < (0:Int)) then J1 true else (bif decide (e.Length ≤ e1.Bit) then J1 true else bnd (dN e1.aT) fun (aF : Bool) => (bif !aF then J1 true else bnd (dN e1.To) fun (aI : Bool) => J1 (!aI))))) (fun (sg : Unit) => match sg with | () => bn e.List 0 (fun (j2 : Int) (e2 : ai) (Z2 : Unit → Option _) (sg : Unit) => match sg with | () => bif ((decide (e2.Kind < (1:Int))) || (decide ((3:Int) < e2.Kind))) then some (1:Int) else Z2 ()) (fun (sg : Unit) => match sg with | () => bn e.List 0 (fun (j3 : Int) (e3 : ai) (Z3 : Unit → Option _) (sg : Unit) => match sg with | () => bif !((decide (e3.To = e3.aT)) == (decide (e3.Kind = (3:Int)))) then some (8:Int) else Z3 ()) (fun (sg : Unit) => match sg with | () => bn (List.drop 1 e.List) 1 (fun (j4 : Int) (e4 : ai) (Z4 : Unit → Option _) (sg : Unit) => match sg with | () => bnd (elO e.List (w64 ((j4 : Int) - (1:Int)))) fun (e_1 : ai) => bif decide (e4.Bit ≤ e_1.Bit) then some (25:Int) else Z4 ()) (fun (sg : Unit) => match sg with | () => bn e.List 0 (fun (j5 : Int) (e5 : ai) (Z5 : (List (aG × Bool)) → Option _) (m_1 : (List (aG × Bool))) => bnd (gV e5) fun (aU : aG) => bif ((gP bV m_1 aU).getD false) then some (5:Int) else bnd (gV e5) fun (aX : aG) => Z5 (ny bV m_1 aX true)) (fun (m_1 : (List (aG × Bool))) => some (0:Int)) []) ()) ()) ()) ()
def gW (e : aB) (t : aj) : Option Int :=
 bnd (cZ e) fun (ak : Int) => bif !decide (ak = (0:Int)) then some ak else bnd (fU t) fun (aF : Int) => bif !decide (aF = (0:Int)) then some (1:Int) else bn e.List 0 (fun (j1 : Int) (e1 : ai) (Z1 : Unit → Option _) (sg : Unit) => match sg with | () => jn (fun (v_1 : Bool) => bif v_1 then some (4:Int) else Z1 ()) fun J1 => bnd (iZ t e1.aT) fun (aI : Bool) => (bif !aI then J1 true else bnd (iZ t e1.To) fun (aU : Bool) => J1 (!aU))) (fun (sg : Unit) => match sg with | () => bn e.List 0 (fun (j2 : Int) (e2 : ai) (Z2 : Unit → Option _) (sg : Unit) => match sg with | () => bnd (jR t e2.aT e2.To) fun (aX : Int × Bool) => bif ((decide (e2.Kind = (1:Int))) && (!aX.2)) then some (8:Int) else Z2 ()) (fun (sg : Unit) => match sg with | () => some (0:Int)) ()) ()
def fJ (e : aB) (bz : Int) : Option Int :=
 jn (fun (b_1 : Int) => some b_1) fun J1 => bnd (cZ e) fun (ak : Int) => bif decide (ak = (0:Int)) then bn e.List 0 (fun (j1 : Int) (e1 : ai) (Z1 : Int → Option _) (b_2 : Int) => jn (fun (b_3 : Int) => Z1 b_3) fun J2 => bif decide (e1.aT = bz) then chk (decide (0 ≤ e1.Bit)) <| J2 (cg .or .u64 b_2 (IntKind.wrap .u64 ((1:Int) * 2 ^ min e1.Bit.toNat 64))) else J2 b_2) (fun (b_2 : Int) => J1 b_2) (0:Int) else J1 (0:Int)
def jS (a : ai) (c_0 : aG) : Option Bool :=
 bnd (gV a) fun (ak : aG) => some (bV ak c_0)
def gX (e : aB) (xa1 : aG) : Option (Int × Bool) :=
 bnd (cE e.List (fun (y0 : ai) => jS y0 xa1)) fun (ak : Int) => bif decide (ak < (0:Int)) then some ((0:Int), false) else bnd (elO e.List ak) fun (e_1 : ai) => some (e_1.Bit, true)
def fZ (e : aB) (bz : Int) (kind : Int) (lN : Int) : Option (Int × Bool) :=
 bnd (cZ e) fun (ak : Int) => bif !decide (ak = (0:Int)) then some ((0:Int), false) else bnd (gX e (aG.mk bz kind lN)) fun (aF : Int × Bool) => some (aF.1, aF.2)
def iB (bz : Int) (kind : Int) (eR : Int) (aaq : Int) (yK : List ai) : Option (Int × (List ai)) :=
 bnd (dV yK ([(ai.mk (yK.length:Int) bz kind eR)] : List ai)) fun (l_1 : List ai) => some (aaq, l_1)
def ga (t : aj) (length : Int) : Option (aB × Int) :=
 bnd (fU t) fun (ak : Int) => bif !decide (ak = (0:Int)) then some ((aB.mk (0:Int) []), (1:Int)) else bnd (fA length) fun (aF : Bool) => bif !aF then some ((aB.mk (0:Int) []), (2:Int)) else bif decide (length < w64 ((t.ay.length:Int) + (w64 ((2:Int) * (t.Links.length:Int))))) then some ((aB.mk (0:Int) []), (3:Int)) else bn t.ay 0 (fun (j1 : Int) (e1 : aN) (Z1 : (Int × (List ai)) → Option _) (sg : Int × (List ai)) => match sg with | (m_1, m_2) => bnd (iB e1.ID (3:Int) e1.ID m_1 m_2) fun (aI : Int × (List ai)) => bnd (gm t e1.ID) fun (aU : (List Int)) => bn aU 0 (fun (j2 : Int) (e2 : Int) (Z2 : (Int × (List ai)) → Option _) (sg : Int × (List ai)) => match sg with | (m_3, m_4) => bnd (iB e1.ID (1:Int) e2 m_3 m_4) fun (aX : Int × (List ai)) => Z2 (aX.1, aX.2)) (fun (sg : Int × (List ai)) => match sg with | (m_3, m_4) => Z1 (m_3, m_4)) (aI.1, aI.2)) (fun (sg : Int × (List ai)) => match sg with | (m_1, m_2) => some ((aB.mk m_1 m_2), (0:Int))) (length, [])
def gN (t : bB) : Option (List (Int × Bool)) :=
 whl (fun (Z1 : (Bool × (List (Int × Bool))) → Option _) (sg : Bool × (List (Int × Bool))) => match sg with | (qP, m_1) => bif qP then bn t.Links 0 (fun (j2 : Int) (e2 : bq) (Z2 : (Bool × (List (Int × Bool))) → Option _) (sg : Bool × (List (Int × Bool))) => match sg with | (kW, m_2) => jn (fun (sg : Bool × (List (Int × Bool))) => match sg with | (qQ, m_3) => Z2 (qQ, m_3)) fun J1 => bif (((cB m_2 e2.bJ).getD false) && (!((cB m_2 e2.To).getD false))) then J1 (true, gz m_2 e2.To true) else J1 (kW, m_2)) (fun (sg : Bool × (List (Int × Bool))) => match sg with | (kW, m_2) => Z1 (kW, m_2)) (false, m_1) else some m_1) (true, gz [] t.bL true)
def ei (t : bB) : Option Int :=
 bnd (dN t.bL) fun (ak : Bool) => bif !ak then some (2:Int) else bn t.Links 0 (fun (j1 : Int) (e1 : bq) (Z1 : Unit → Option _) (sg : Unit) => match sg with | () => jn (fun (v_1 : Bool) => bif v_1 then some (2:Int) else Z1 ()) fun J1 => bnd (dN e1.bJ) fun (aF : Bool) => (bif !aF then J1 true else bnd (dN e1.To) fun (aI : Bool) => J1 (!aI))) (fun (sg : Unit) => match sg with | () => bn (List.drop 1 t.Links) 1 (fun (j2 : Int) (e2 : bq) (Z2 : Unit → Option _) (sg : Unit) => match sg with | () => bnd (elO t.Links (w64 ((j2 : Int) - (1:Int)))) fun (e_1 : bq) => bnd (dY e_1.bJ e2.bJ) fun (aU : Int) => bnd (dY e_1.To e2.To) fun (aX : Int) => bnd (ji ([aU, aX] : List Int)) fun (aS : Int) => bif decide ((0:Int) ≤ aS) then some (25:Int) else Z2 ()) (fun (sg : Unit) => match sg with | () => bn t.Links 0 (fun (j3 : Int) (e3 : bq) (Z3 : (List (Int × Bool)) → Option _) (m_1 : (List (Int × Bool))) => bif ((cB m_1 e3.To).getD false) then some (8:Int) else Z3 (gz m_1 e3.To true)) (fun (m_1 : (List (Int × Bool))) => bnd (gN t) fun (bh : (List (Int × Bool))) => bn t.Links 0 (fun (j4 : Int) (e4 : bq) (Z4 : Unit → Option _) (sg : Unit) => match sg with | () => bif !((cB bh e4.bJ).getD false) then some (10:Int) else Z4 ()) (fun (sg : Unit) => match sg with | () => some (0:Int)) ()) (gz [] t.bL true)) ()) ()
def fL (t : bB) : Option (List Int) :=
 bnd (ei t) fun (ak : Int) => bif !decide (ak = (0:Int)) then some [] else bn t.Links 0 (fun (j1 : Int) (e1 : bq) (Z1 : (List Int) → Option _) (bO : (List Int)) => bnd (dV bO ([e1.To] : List Int)) fun (l_1 : List Int) => Z1 l_1) (fun (bO : (List Int)) => chk (decide (bO.length < 4611686018427387904)) <| some (gA bO)) ([t.bL] : List Int)
def fk (e : aB) (t : bB) (receivers : List Int) : Option (Int × Int) :=
 bnd (cZ e) fun (ak : Int) => bnd (ei t) fun (aF : Int) => bnd (iA ([ak, aF] : List Int)) fun (aI : Int) => bif !decide (aI = (0:Int)) then some ((0:Int), aI) else bn (List.drop 1 receivers) 1 (fun (j1 : Int) (e1 : Int) (Z1 : Unit → Option _) (sg : Unit) => match sg with | () => bnd (elO receivers (w64 ((j1 : Int) - (1:Int)))) fun (e_1 : Int) => bif decide (e1 ≤ e_1) then some ((0:Int), (25:Int)) else Z1 ()) (fun (sg : Unit) => match sg with | () => bnd (fL t) fun (aU : (List Int)) => bn receivers 0 (fun (j2 : Int) (e2 : Int) (Z2 : (List aG) → Option _) (mR : (List aG)) => bnd (dM aU e2) fun (aX : Int × Bool) => bif !aX.2 then some ((0:Int), (8:Int)) else bnd (dV mR ([(aG.mk e2 (3:Int) e2)] : List aG)) fun (l_1 : List aG) => Z2 l_1) (fun (mR : (List aG)) => bn t.Links 0 (fun (j3 : Int) (e3 : bq) (Z3 : (List aG) → Option _) (gb : (List aG)) => bnd (dV gb ([(aG.mk e3.bJ (1:Int) e3.To)] : List aG)) fun (l_2 : List aG) => Z3 l_2) (fun (gb : (List aG)) => bn gb 0 (fun (j4 : Int) (e4 : aG) (Z4 : Int → Option _) (b_1 : Int) => bnd (gX e e4) fun (aS : Int × Bool) => bif !aS.2 then some ((0:Int), (4:Int)) else chk (decide (0 ≤ aS.1)) <| Z4 (cg .or .u64 b_1 (IntKind.wrap .u64 ((1:Int) * 2 ^ min aS.1.toNat 64)))) (fun (b_1 : Int) => some (b_1, (0:Int))) (0:Int)) mR) []) ()
def jm (a : aB) (b : aB) : Option Bool :=
 (bif decide (a.Length = b.Length) then bnd (cQ a.List b.List) fun (ak : Bool) => some ak else some false)
end
end Go.Proofs.Ytmfehenfoepkfaa
