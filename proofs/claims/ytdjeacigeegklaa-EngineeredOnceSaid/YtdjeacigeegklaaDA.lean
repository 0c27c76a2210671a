/- Several texts in one. No condition but those that stand in each. -/
import Derived.Test.YtdjeacigeegklaaT
/- Functions of the program, written lz. No condition but bL aY stand in each. -/
namespace Go.Proofs.Ytdjeacigeegklaa
open Go
set_option maxRecDepth 100000
set_option linter.all false
noncomputable section
end
end Go.Proofs.Ytdjeacigeegklaa

/- Functions of the program, written lz. No condition but bL aY stand in each. -/
namespace Go.Proofs.Ytdjeacigeegklaa
open Go
set_option maxRecDepth 100000
set_option linter.all false
noncomputable section
def mh (n : Int) : Option Bool :=
 some ((decide ((1:Int) ≤ n)) && (decide (n ≤ (1000:Int))))
def lQ (t : aa) (ra1 : Int) : Option Bool :=
 bY t.aC 0 (fun (j1 : Int) (e1 : aP) (Z1 : Unit → Option _) (sg : Unit) => match sg with | () => bif decide (e1.ID = ra1) then some true else Z1 ()) (fun (sg : Unit) => match sg with | () => some false) ()
def lP (t : aa) (cI : Int) (fD : Int) : Option (Int × Bool) :=
 bY t.Links 0 (fun (j1 : Int) (e1 : bf) (Z1 : Unit → Option _) (sg : Unit) => match sg with | () => bif ((decide (e1.A = cI)) && (decide (e1.B = fD))) then some (e1.jL, true) else bif ((decide (e1.B = cI)) && (decide (e1.A = fD))) then some (e1.jM, true) else Z1 ()) (fun (sg : Unit) => match sg with | () => some ((0:Int), false)) ()
def jE (t : aa) : Option Int :=
 bif ((decide ((24:Int) < (t.aC.length:Int))) || (decide ((60:Int) < (t.Links.length:Int)))) then some (3:Int) else bY t.aC 0 (fun (j1 : Int) (e1 : aP) (Z1 : Unit → Option _) (sg : Unit) => match sg with | () => bif ((decide (e1.ID < (1:Int))) || (decide ((99:Int) < e1.ID))) then some (2:Int) else Z1 ()) (fun (sg : Unit) => match sg with | () => bY (List.drop 1 t.aC) 1 (fun (j2 : Int) (e2 : aP) (Z2 : Unit → Option _) (sg : Unit) => match sg with | () => bnd (elO t.aC (w64 ((j2 : Int) - (1:Int)))) fun (e_1 : aP) => bif decide (e2.ID ≤ e_1.ID) then some (25:Int) else Z2 ()) (fun (sg : Unit) => match sg with | () => bY t.Links 0 (fun (j3 : Int) (e3 : bf) (Z3 : Unit → Option _) (sg : Unit) => match sg with | () => jn (fun (v_1 : Bool) => bif v_1 then some (2:Int) else Z3 ()) fun J1 => bnd (mh e3.jL) fun (ay : Bool) => (bif !ay then J1 true else bnd (mh e3.jM) fun (aV : Bool) => (bif !aV then J1 true else (bif decide (e3.lC < (0:Int)) then J1 true else J1 (decide ((1000:Int) < e3.lC)))))) (fun (sg : Unit) => match sg with | () => bY t.Links 0 (fun (j4 : Int) (e4 : bf) (Z4 : Unit → Option _) (sg : Unit) => match sg with | () => jn (fun (v_2 : Bool) => bif v_2 then some (4:Int) else Z4 ()) fun J2 => bnd (lQ t e4.A) fun (bu : Bool) => (bif !bu then J2 true else bnd (lQ t e4.B) fun (aK : Bool) => J2 (!aK))) (fun (sg : Unit) => match sg with | () => bY t.Links 0 (fun (j5 : Int) (e5 : bf) (Z5 : Unit → Option _) (sg : Unit) => match sg with | () => bif decide (e5.B ≤ e5.A) then some (8:Int) else Z5 ()) (fun (sg : Unit) => match sg with | () => bY (List.drop 1 t.Links) 1 (fun (j6 : Int) (e6 : bf) (Z6 : Unit → Option _) (sg : Unit) => match sg with | () => bnd (elO t.Links (w64 ((j6 : Int) - (1:Int)))) fun (e_2 : bf) => bif ((decide (e6.A < e_2.A)) || ((decide (e_2.A = e6.A)) && (decide (e6.B ≤ e_2.B)))) then some (25:Int) else Z6 ()) (fun (sg : Unit) => match sg with | () => some (0:Int)) ()) ()) ()) ()) ()) ()
end
end Go.Proofs.Ytdjeacigeegklaa

/- Functions of the program, written lz. No condition but bL aY stand in each. -/
namespace Go.Proofs.Ytdjeacigeegklaa
open Go
set_option maxRecDepth 100000
set_option linter.all false
noncomputable section
def mj (t : aa) (ra1 : Int) : Option (List Int) :=
 bY t.aC 0 (fun (j1 : Int) (e1 : aP) (Z1 : (List Int) → Option _) (er : (List Int)) => jn (fun (fQ : (List Int)) => Z1 fQ) fun J1 => bnd (lP t ra1 e1.ID) fun (ay : Int × Bool) => bif ay.2 then bnd (eR er ([e1.ID] : List Int)) fun (l_1 : List Int) => J1 l_1 else J1 er) (fun (er : (List Int)) => some er) []
def iD (t : aa) (ra1 : Int) : Option (List Int) :=
 bnd (jE t) fun (ay : Int) => bif !decide (ay = (0:Int)) then some [] else bnd (mj t ra1) fun (aV : (List Int)) => some aV
end
end Go.Proofs.Ytdjeacigeegklaa

/- Functions of the program, written lz. No condition but bL aY stand in each. -/
namespace Go.Proofs.Ytdjeacigeegklaa
open Go
set_option maxRecDepth 100000
set_option linter.all false
noncomputable section
end
end Go.Proofs.Ytdjeacigeegklaa

/- Functions of the program, written lz. No condition but bL aY stand in each. -/
namespace Go.Proofs.Ytdjeacigeegklaa
open Go
set_option maxRecDepth 100000
set_option linter.all false
noncomputable section
def iJ (xa0 : Int) : Option Bool :=
 some (!decide (xa0 = xa0))
def eo (xa0 : Int) (y : Int) : Option Int :=
 bnd (iJ xa0) fun (ay : Bool) => bnd (iJ y) fun (aV : Bool) => bif ay then bif aV then some (0:Int) else some (-1:Int) else bif aV then some (1:Int) else bif decide (xa0 < y) then some (-1:Int) else bif decide (y < xa0) then some (1:Int) else some (0:Int)
def mm (vals : List Int) : Option Int :=
 bY vals 0 (fun (j1 : Int) (e1 : Int) (Z1 : Unit → Option _) (sg : Unit) => match sg with | () => bif !decide (e1 = (0:Int)) then some e1 else Z1 ()) (fun (sg : Unit) => match sg with | () => some (0:Int)) ()
def cc (xa0 : List aP) (target : Int) (cmp : aP → Int → Option Int) : Option (Int × Bool) :=
 whl (fun (Z1 : (Int × Int) → Option _) (sg : Int × Int) => match sg with | (i_1, j_1) => bif decide (i_1 < j_1) then bnd (elO xa0 (w64 (Int.fdiv (IntKind.wrap .u64 (w64 (i_1 + j_1))) (2 ^ min (1:Int).toNat 64)))) fun (e_1 : aP) => bnd (cmp e_1 target) fun (ay : Int) => bif decide (ay < (0:Int)) then Z1 (w64 ((w64 (Int.fdiv (IntKind.wrap .u64 (w64 (i_1 + j_1))) (2 ^ min (1:Int).toNat 64))) + (1:Int)), j_1) else Z1 (i_1, w64 (Int.fdiv (IntKind.wrap .u64 (w64 (i_1 + j_1))) (2 ^ min (1:Int).toNat 64))) else (bif decide (i_1 < (xa0.length:Int)) then bnd (elO xa0 i_1) fun (e_2 : aP) => bnd (cmp e_2 target) fun (aV : Int) => some (i_1, decide (aV = (0:Int))) else some (i_1, false))) ((0:Int), (xa0.length:Int))
def dO (sa0 : List aP) (f : aP → Option Bool) : Option Int :=
 bY sa0 0 (fun (j1 : Int) (e1 : aP) (Z1 : Unit → Option _) (sg : Unit) => match sg with | () => bnd (f e1) fun (ay : Bool) => bif ay then some (j1 : Int) else Z1 ()) (fun (sg : Unit) => match sg with | () => some (-1:Int)) ()
def ez (sa0 : List bf) (f : bf → Option Bool) : Option Int :=
 bY sa0 0 (fun (j1 : Int) (e1 : bf) (Z1 : Unit → Option _) (sg : Unit) => match sg with | () => bnd (f e1) fun (ay : Bool) => bif ay then some (j1 : Int) else Z1 ()) (fun (sg : Unit) => match sg with | () => some (-1:Int)) ()
def cu (xa0 : List bf) (target : bf) (cmp : bf → bf → Option Int) : Option (Int × Bool) :=
 whl (fun (Z1 : (Int × Int) → Option _) (sg : Int × Int) => match sg with | (i_1, j_1) => bif decide (i_1 < j_1) then bnd (elO xa0 (w64 (Int.fdiv (IntKind.wrap .u64 (w64 (i_1 + j_1))) (2 ^ min (1:Int).toNat 64)))) fun (e_1 : bf) => bnd (cmp e_1 target) fun (ay : Int) => bif decide (ay < (0:Int)) then Z1 (w64 ((w64 (Int.fdiv (IntKind.wrap .u64 (w64 (i_1 + j_1))) (2 ^ min (1:Int).toNat 64))) + (1:Int)), j_1) else Z1 (i_1, w64 (Int.fdiv (IntKind.wrap .u64 (w64 (i_1 + j_1))) (2 ^ min (1:Int).toNat 64))) else (bif decide (i_1 < (xa0.length:Int)) then bnd (elO xa0 i_1) fun (e_2 : bf) => bnd (cmp e_2 target) fun (aV : Int) => some (i_1, decide (aV = (0:Int))) else some (i_1, false))) ((0:Int), (xa0.length:Int))
def cR (sa0 : List aP) (f : aP → Option Bool) : Option Bool :=
 bnd (dO sa0 f) fun (ay : Int) => some (decide ((0:Int) ≤ ay))
def ct (sa0 : List bf) (f : bf → Option Bool) : Option Bool :=
 bnd (ez sa0 f) fun (ay : Int) => some (decide ((0:Int) ≤ ay))
def gR (n : Int) (least : Int) (most : Int) : Option Bool :=
 some ((decide (least ≤ n)) && (decide (n ≤ most)))
def gw (a : bf) (b : bf) : Option Int :=
 bnd (eo a.A b.A) fun (ay : Int) => bnd (eo a.B b.B) fun (aV : Int) => bnd (mm ([ay, aV] : List Int)) fun (bu : Int) => some bu
def iK (ra0 : aP) (id : Int) : Option Int :=
 bnd (eo ra0.ID id) fun (ay : Int) => some ay
def jN (ra0 : aP) : Option Bool :=
 bnd (gR ra0.ID (1:Int) (99:Int)) fun (ay : Bool) => some (!ay)
def iE (l : bf) : Option Bool :=
 bnd (gR l.jL (1:Int) (1000:Int)) fun (ay : Bool) => (bif !ay then some true else bnd (gR l.jM (1:Int) (1000:Int)) fun (aV : Bool) => (bif !aV then some true else bnd (gR l.lC (0:Int) (1000:Int)) fun (bu : Bool) => some (!bu)))
def gx (id : Int) (c_0 : aa) : Option Bool :=
 bnd (cc c_0.aC id iK) fun (ay : Int × Bool) => some (!ay.2)
def jO (l : bf) (c_0 : aa) : Option Bool :=
 bnd (gx l.A c_0) fun (ay : Bool) => (bif ay then some true else bnd (gx l.B c_0) fun (aV : Bool) => some aV)
def jP (l : bf) : Option Bool :=
 some (decide (l.B ≤ l.A))
def gp (t : aa) : Option Int :=
 bif ((decide ((24:Int) < (t.aC.length:Int))) || (decide ((60:Int) < (t.Links.length:Int)))) then some (3:Int) else bnd (cR t.aC jN) fun (ay : Bool) => bif ay then some (2:Int) else bY t.aC 0 (fun (j1 : Int) (e1 : aP) (Z1 : Unit → Option _) (sg : Unit) => match sg with | () => jn (fun (v_1 : Bool) => bif v_1 then some (25:Int) else Z1 ()) fun J1 => (bif decide ((0:Int) < (j1 : Int)) then bnd (elO t.aC (w64 ((j1 : Int) - (1:Int)))) fun (e_1 : aP) => J1 (decide (e1.ID ≤ e_1.ID)) else J1 false)) (fun (sg : Unit) => match sg with | () => bnd (ct t.Links iE) fun (aV : Bool) => bif aV then some (2:Int) else bnd (ct t.Links (fun (y0 : bf) => jO y0 t)) fun (bu : Bool) => bif bu then some (4:Int) else bnd (ct t.Links jP) fun (aK : Bool) => bif aK then some (8:Int) else bY t.Links 0 (fun (j2 : Int) (e2 : bf) (Z2 : Unit → Option _) (sg : Unit) => match sg with | () => jn (fun (v_2 : Bool) => bif v_2 then some (25:Int) else Z2 ()) fun J2 => (bif decide ((0:Int) < (j2 : Int)) then bnd (elO t.Links (w64 ((j2 : Int) - (1:Int)))) fun (e_2 : bf) => bnd (gw e_2 e2) fun (cO : Int) => J2 (decide ((0:Int) ≤ cO)) else J2 false)) (fun (sg : Unit) => match sg with | () => some (0:Int)) ()) ()
def gY (t : aa) : Option Bool :=
 bnd (gp t) fun (ay : Int) => some (decide (ay = (0:Int)))
def jQ (t : aa) (bW : Int) : Option (aP × Bool) :=
 bnd (cc t.aC bW iK) fun (ay : Int × Bool) => bif !ay.2 then some ((aP.mk (0:Int) false), false) else bnd (elO t.aC ay.1) fun (e_1 : aP) => some (e_1, true)
def kJ (t : aa) (bW : Int) : Option Bool :=
 bnd (jQ t bW) fun (ay : aP × Bool) => bnd (gY t) fun (aV : Bool) => (bif aV then some ay.2 else some false)
def jR (t : aa) (cI : Int) (fD : Int) : Option (Int × Bool) :=
 bnd (gY t) fun (ay : Bool) => bif !ay then some ((0:Int), false) else bnd (cu t.Links (bf.mk (if fD < cI then fD else cI) (if fD > cI then fD else cI) (0:Int) (0:Int) (0:Int)) gw) fun (aV : Int × Bool) => bif !aV.2 then some ((0:Int), false) else bif decide (cI < fD) then bnd (elO t.Links aV.1) fun (e_1 : bf) => some (e_1.jL, true) else bnd (elO t.Links aV.1) fun (e_2 : bf) => some (e_2.jM, true)
end
end Go.Proofs.Ytdjeacigeegklaa

/- Functions of the program, written lz. No condition but bL aY stand in each. -/
namespace Go.Proofs.Ytdjeacigeegklaa
open Go
set_option maxRecDepth 100000
set_option linter.all false
noncomputable section
end
end Go.Proofs.Ytdjeacigeegklaa

/- Functions of the program, written lz. No condition but bL aY stand in each. -/
namespace Go.Proofs.Ytdjeacigeegklaa
open Go
set_option maxRecDepth 100000
set_option linter.all false
noncomputable section
def fW (t : List Int) : Option aQ :=
 bnd (pT t (0:Int) (if (2000:Int) < (t.length:Int) then (2000:Int) else (t.length:Int))) fun (l_1 : List Int) => some (aQ.mk l_1 (0:Int))
def gm (t : aQ) : Option (Int × aQ) :=
 bif decide ((t.L.length:Int) ≤ t.At) then some ((0:Int), t) else bnd (elO t.L (w64 ((w64 (t.At + (1:Int))) - (1:Int)))) fun (e_1 : Int) => some (e_1, (aQ.mk t.L (w64 (t.At + (1:Int)))))
def iV (xa0 : Int) (n : Int) : Option Int :=
 bif decide (n < (1:Int)) then some (0:Int) else chk (decide (n ≠ 0)) <| jn (fun (ay : Int) => some ay) fun J1 => bif decide (Int.tmod xa0 n < (0:Int)) then J1 (w64 ((Int.tmod xa0 n) + n)) else J1 (Int.tmod xa0 n)
def bn (t : aQ) (n : Int) : Option (Int × aQ) :=
 bnd (gm t) fun (ay : Int × aQ) => bnd (iV ay.1 n) fun (aV : Int) => some (aV, ay.2)
def dZ (t : aQ) (lo : Int) (hi : Int) : Option (Int × aQ) :=
 bnd (bn t (w64 ((w64 (hi - lo)) + (1:Int)))) fun (ay : Int × aQ) => some (w64 (lo + ay.1), ay.2)
def cN (t : aQ) (l : List Int) : Option (Int × aQ) :=
 bnd (bn t (l.length:Int)) fun (ay : Int × aQ) => bnd (elO l ay.1) fun (e_1 : Int) => some (e_1, ay.2)
def jm (l : List Int) (xa1 : Int) : Option Bool :=
 bY l 0 (fun (j1 : Int) (e1 : Int) (Z1 : Unit → Option _) (sg : Unit) => match sg with | () => bif decide (e1 = xa1) then some true else Z1 ()) (fun (sg : Unit) => match sg with | () => some false) ()
end
end Go.Proofs.Ytdjeacigeegklaa

/- Functions of the program, written lz. No condition but bL aY stand in each. -/
namespace Go.Proofs.Ytdjeacigeegklaa
open Go
set_option maxRecDepth 100000
set_option linter.all false
noncomputable section
def jf (n : Int) : Option Bool :=
 some ((decide (n = (8:Int))) || ((decide (n = (16:Int))) || ((decide (n = (32:Int))) || (decide (n = (64:Int))))))
def kL (n : Int) : Option Bool :=
 some ((decide ((1:Int) ≤ n)) && (decide (n ≤ (99:Int))))
def hU (e : aM) : Option Int :=
 bnd (jf e.Length) fun (ay : Bool) => bY e.List 0 (fun (j1 : Int) (e1 : ah) (Z1 : Bool → Option _) (lF : Bool) => (bif lF then (bif decide ((0:Int) ≤ e1.Bit) then (bif decide (e1.Bit < e.Length) then bnd (kL e1.aR) fun (aV : Bool) => (bif aV then bnd (kL e1.To) fun (bu : Bool) => Z1 bu else Z1 false) else Z1 false) else Z1 false) else Z1 false)) (fun (lF : Bool) => bif !lF then some (2:Int) else bY e.List 0 (fun (j2 : Int) (e2 : ah) (Z2 : Unit → Option _) (sg : Unit) => match sg with | () => bif ((decide (e2.Kind < (1:Int))) || (decide ((3:Int) < e2.Kind))) then some (1:Int) else Z2 ()) (fun (sg : Unit) => match sg with | () => bY e.List 0 (fun (j3 : Int) (e3 : ah) (Z3 : Unit → Option _) (sg : Unit) => match sg with | () => bif !((decide (e3.To = e3.aR)) == (decide (e3.Kind = (3:Int)))) then some (8:Int) else Z3 ()) (fun (sg : Unit) => match sg with | () => bY (List.drop 1 e.List) 1 (fun (j4 : Int) (e4 : ah) (Z4 : Unit → Option _) (sg : Unit) => match sg with | () => bnd (elO e.List (w64 ((j4 : Int) - (1:Int)))) fun (e_1 : ah) => bif decide (e4.Bit ≤ e_1.Bit) then some (25:Int) else Z4 ()) (fun (sg : Unit) => match sg with | () => bY e.List 0 (fun (j5 : Int) (e5 : ah) (Z5 : Unit → Option _) (sg : Unit) => match sg with | () => bnd (pT e.List (0:Int) (j5 : Int)) fun (l_1 : List ah) => bY l_1 0 (fun (j6 : Int) (e6 : ah) (Z6 : Unit → Option _) (sg : Unit) => match sg with | () => bif ((decide (e5.aR = e6.aR)) && ((decide (e5.Kind = e6.Kind)) && (decide (e5.To = e6.To)))) then some (5:Int) else Z6 ()) (fun (sg : Unit) => match sg with | () => Z5 ()) ()) (fun (sg : Unit) => match sg with | () => some (0:Int)) ()) ()) ()) ()) ay
def nh (e : aM) (ra1 : Int) : Option Int :=
 jn (fun (er : Int) => some er) fun J1 => bnd (hU e) fun (ay : Int) => bif decide (ay = (0:Int)) then bY e.List 0 (fun (j1 : Int) (e1 : ah) (Z1 : Int → Option _) (fQ : Int) => jn (fun (vM : Int) => Z1 vM) fun J2 => bif decide (e1.aR = ra1) then chk (decide (0 ≤ IntKind.wrap .u64 e1.Bit)) <| J2 (bH .or .u64 fQ (IntKind.wrap .u64 ((1:Int) * 2 ^ min (IntKind.wrap .u64 e1.Bit).toNat 64))) else J2 fQ) (fun (fQ : Int) => J1 fQ) (0:Int) else J1 (0:Int)
def kM (e : aM) (ra1 : Int) (kind : Int) (o5 : Int) : Option (Int × Bool) :=
 jn (fun (sg : Unit) => match sg with | () => some ((0:Int), false)) fun J1 => bnd (hU e) fun (ay : Int) => bif decide (ay = (0:Int)) then bY e.List 0 (fun (j1 : Int) (e1 : ah) (Z1 : Unit → Option _) (sg : Unit) => match sg with | () => bif ((decide (e1.aR = ra1)) && ((decide (e1.Kind = kind)) && (decide (e1.To = o5)))) then some (e1.Bit, true) else Z1 ()) (fun (sg : Unit) => match sg with | () => J1 ()) () else J1 ()
def kN (t : aa) (n : Int) : Option (aM × Int) :=
 bnd (jE t) fun (ay : Int) => bif !decide (ay = (0:Int)) then some ((aM.mk (0:Int) []), (1:Int)) else bnd (jf n) fun (aV : Bool) => bif !aV then some ((aM.mk (0:Int) []), (2:Int)) else bY t.aC 0 (fun (j1 : Int) (e1 : aP) (Z1 : (List ah) → Option _) (m_1 : (List ah)) => bnd (eR m_1 ([(ah.mk (m_1.length:Int) e1.ID (3:Int) e1.ID)] : List ah)) fun (l_1 : List ah) => bnd (iD t e1.ID) fun (bu : (List Int)) => bY bu 0 (fun (j2 : Int) (e2 : Int) (Z2 : (List ah) → Option _) (m_2 : (List ah)) => bnd (eR m_2 ([(ah.mk (m_2.length:Int) e1.ID (1:Int) e2)] : List ah)) fun (l_2 : List ah) => Z2 l_2) (fun (m_2 : (List ah)) => Z1 m_2) l_1) (fun (m_1 : (List ah)) => bif decide (n < (m_1.length:Int)) then some ((aM.mk (0:Int) []), (3:Int)) else some ((aM.mk n m_1), (0:Int))) []
end
end Go.Proofs.Ytdjeacigeegklaa

/- Functions of the program, written lz. No condition but bL aY stand in each. -/
namespace Go.Proofs.Ytdjeacigeegklaa
open Go
set_option maxRecDepth 100000
set_option linter.all false
noncomputable section
def ia (t : aQ) (most : Int) : Option (aa × aQ) :=
 bnd (dZ t (1:Int) most) fun (ay : Int × aQ) => chk (decide (ay.1 ≤ 9223372036854775807)) <| jY (ay.1 - (0:Int)).toNat (0:Int) (fun (j1 : Int) (Z1 : (Int × (List aP) × (List Int) × Int) → Option _) (sg : Int × (List aP) × (List Int) × Int) => match sg with | (sD, m_1, m_2, m_3) => bnd (cN (aQ.mk m_2 m_3) ([(1:Int), (1:Int), (1:Int), (2:Int), (5:Int)] : List Int)) fun (aV : Int × aQ) => bnd (eR m_1 ([(aP.mk (w64 (sD + aV.1)) true)] : List aP)) fun (l_1 : List aP) => Z1 (w64 (sD + aV.1), l_1, aV.2.L, aV.2.At)) (fun (j1 : Int) (sg : Int × (List aP) × (List Int) × Int) => match sg with | (sD, m_1, m_2, m_3) => chk (decide (0 < ay.1) && decide (ay.1 ≤ 4294967296)) <| chk (decide (((List.replicate ay.1.toNat [] : List (List Bool)).length:Int) ≤ 9223372036854775807)) <| jY (((List.replicate ay.1.toNat [] : List (List Bool)).length:Int) - (0:Int)).toNat (0:Int) (fun (j2 : Int) (Z2 : (List (List Bool)) → Option _) (m_4 : (List (List Bool))) => chk (decide (0 ≤ ay.1) && decide (ay.1 ≤ 4294967296)) <| bnd (elO m_4 (j2 : Int)) fun (e_1 : List Bool) => Z2 (List.set m_4 (j2 : Int).toNat (List.replicate (ay.1).toNat false))) (fun (j2 : Int) (m_4 : (List (List Bool))) => chk (decide (ay.1 ≤ 9223372036854775807)) <| jY (ay.1 - (1:Int)).toNat (1:Int) (fun (j3 : Int) (Z3 : ((List Int) × Int × (List (List Bool))) → Option _) (sg : (List Int) × Int × (List (List Bool))) => match sg with | (m_5, m_6, m_7) => jn (fun (sg : (List (List Bool)) × (List Int) × Int) => match sg with | (m_8, m_9, fZ) => Z3 (m_9, fZ, m_8)) fun J1 => bnd (bn (aQ.mk m_5 m_6) (12:Int)) fun (bu : Int × aQ) => bif decide (bu.1 < (11:Int)) then bnd (bn bu.2 (j3 : Int)) fun (aK : Int × aQ) => bnd (elO m_7 aK.1) fun (e_2 : List Bool) => bnd (elO e_2 (j3 : Int)) fun (e_3 : Bool) => bnd (tw e_2 (j3 : Int) true) fun (l_2 : List Bool) => J1 ((List.set m_7 aK.1.toNat l_2), aK.2.L, aK.2.At) else J1 (m_7, bu.2.L, bu.2.At)) (fun (j3 : Int) (sg : (List Int) × Int × (List (List Bool))) => match sg with | (m_5, m_6, m_7) => bnd (bn (aQ.mk m_5 m_6) (w64 (ay.1 + (2:Int)))) fun (cO : Int × aQ) => whl (fun (Z4 : (Int × (List Int) × Int × (List (List Bool))) → Option _) (sg : Int × (List Int) × Int × (List (List Bool))) => match sg with | (i_1, en, fK, dA) => bif decide ((0:Int) < i_1) then jn (fun (sg : (List (List Bool)) × (List Int) × Int) => match sg with | (lG, o6, o7) => Z4 (w64 (i_1 - (1:Int)), o6, o7, lG)) fun J2 => bnd (bn (aQ.mk en fK) ay.1) fun (aU : Int × aQ) => bnd (bn aU.2 ay.1) fun (dh : Int × aQ) => bif !decide (aU.1 = dh.1) then bnd (elO dA (if dh.1 < aU.1 then dh.1 else aU.1)) fun (e_4 : List Bool) => bnd (elO e_4 (if dh.1 > aU.1 then dh.1 else aU.1)) fun (e_5 : Bool) => bnd (tw e_4 (if dh.1 > aU.1 then dh.1 else aU.1) true) fun (l_3 : List Bool) => J2 ((List.set dA (if dh.1 < aU.1 then dh.1 else aU.1).toNat l_3), dh.2.L, dh.2.At) else J2 (dA, dh.2.L, dh.2.At) else bnd (bn (aQ.mk en fK) (3:Int)) fun (de : Int × aQ) => chk (decide ((dA.length:Int) ≤ 9223372036854775807)) <| jY ((dA.length:Int) - (0:Int)).toNat (0:Int) (fun (j5 : Int) (Z5 : ((List bf) × (List Int) × Int) → Option _) (sg : (List bf) × (List Int) × Int) => match sg with | (nE, kO, kP) => chk (decide ((dA.length:Int) ≤ 9223372036854775807)) <| jY ((dA.length:Int) - (0:Int)).toNat (0:Int) (fun (j6 : Int) (Z6 : ((List bf) × (List Int) × Int) → Option _) (sg : (List bf) × (List Int) × Int) => match sg with | (jB, kQ, mo) => jn (fun (sg : (List Int) × Int × (List bf)) => match sg with | (pX, pY, mQ) => Z6 (mQ, pX, pY)) fun J3 => bnd (elO dA (j5 : Int)) fun (e_6 : List Bool) => bnd (elO e_6 (j6 : Int)) fun (e_7 : Bool) => bif !e_7 then J3 (kQ, mo, jB) else bnd (elO m_1 (j5 : Int)) fun (e_8 : aP) => bnd (elO m_1 (j6 : Int)) fun (e_9 : aP) => bnd (cN (aQ.mk kQ mo) ([(0:Int), (1:Int), (2:Int), (3:Int), (5:Int), (10:Int), (1000:Int)] : List Int)) fun (iG : Int × aQ) => jn (fun (sg : (List Int) × Int × Int × Int) => match sg with | (mR, kR, aan, aao) => bnd (eR jB ([(bf.mk e_8.ID e_9.ID aan aao iG.1)] : List bf)) fun (l_4 : List bf) => J3 (mR, kR, l_4)) fun J4 => bif !(decide (de.1 = (0:Int))) then bnd (dZ iG.2 (1:Int) (20:Int)) fun (gV : Int × aQ) => bnd (cN gV.2 ([(1:Int), (2:Int), (3:Int), gV.1, (1000:Int)] : List Int)) fun (mF : Int × aQ) => bnd (dZ mF.2 (1:Int) (20:Int)) fun (ab7 : Int × aQ) => bnd (cN ab7.2 ([mF.1, mF.1, ab7.1] : List Int)) fun (ql : Int × aQ) => J4 (ql.2.L, ql.2.At, mF.1, ql.1) else J4 (iG.2.L, iG.2.At, (1:Int), (1:Int))) (fun (j6 : Int) (sg : (List bf) × (List Int) × Int) => match sg with | (jB, kQ, mo) => Z5 (jB, kQ, mo)) (nE, kO, kP)) (fun (j5 : Int) (sg : (List bf) × (List Int) × Int) => match sg with | (nE, kO, kP) => some ((aa.mk m_1 nE), (aQ.mk kO kP))) ([], de.2.L, de.2.At)) (cO.1, cO.2.L, cO.2.At, m_7)) (m_2, m_3, m_4)) (List.replicate ay.1.toNat [] : List (List Bool))) ((0:Int), [], ay.2.L, ay.2.At)
def kS (t : aQ) (p : aa) : Option (aM × aQ) :=
 bnd (cN t ([(64:Int), (64:Int), (32:Int), (16:Int)] : List Int)) fun (ay : Int × aQ) => bnd (kN p (64:Int)) fun (aV : aM × Int) => jn (fun (sg : Bool × (List Int) × Int) => match sg with | (v_1, m_1, m_2) => bif v_1 then some (aV.1, (aQ.mk m_1 m_2)) else bY p.aC 0 (fun (j1 : Int) (e1 : aP) (Z1 : ((List ah) × (List Int) × Int) → Option _) (sg : (List ah) × (List Int) × Int) => match sg with | (m_3, m_4, m_5) => jn (fun (sg : (List Int) × Int × (List ah)) => match sg with | (m_6, m_7, m_8) => Z1 (m_8, m_6, m_7)) fun J2 => jn (fun (sg : (List Int) × Int × (List ah)) => match sg with | (m_9, fZ, en) => bY p.Links 0 (fun (j2 : Int) (e2 : bf) (Z2 : ((List ah) × (List Int) × Int) → Option _) (sg : (List ah) × (List Int) × Int) => match sg with | (fK, dA, lG) => jn (fun (sg : (List Int) × Int × (List ah)) => match sg with | (o6, o7, nE) => Z2 (nE, o6, o7)) fun J4 => jn (fun (vN : Int) => jn (fun (tJ : Int) => jn (fun (sg : Bool × (List Int) × Int) => match sg with | (v_2, kO, kP) => bif v_2 then bnd (eR fK ([(ah.mk (fK.length:Int) e1.ID (1:Int) tJ)] : List ah)) fun (l_2 : List ah) => J4 (kO, kP, l_2) else J4 (kO, kP, fK)) fun J7 => (bif !decide (tJ = (0:Int)) then bnd (bn (aQ.mk dA lG) (5:Int)) fun (cO : Int × aQ) => J7 (decide ((0:Int) < cO.1), cO.2.L, cO.2.At) else J7 (false, dA, lG))) fun J6 => bif decide (e2.B = e1.ID) then J6 e2.A else J6 vN) fun J5 => bif decide (e2.A = e1.ID) then J5 e2.B else J5 (0:Int)) (fun (sg : (List ah) × (List Int) × Int) => match sg with | (fK, dA, lG) => bnd (bn (aQ.mk dA lG) (p.aC.length:Int)) fun (aU : Int × aQ) => bnd (elO p.aC aU.1) fun (e_1 : aP) => jn (fun (sg : Bool × (List Int) × Int) => match sg with | (v_3, jB, kQ) => bif v_3 then bnd (eR fK ([(ah.mk (fK.length:Int) e1.ID (2:Int) e_1.ID)] : List ah)) fun (l_3 : List ah) => J2 (jB, kQ, l_3) else J2 (jB, kQ, fK)) fun J8 => (bif !decide (e_1.ID = e1.ID) then bnd (bn aU.2 (3:Int)) fun (dh : Int × aQ) => J8 (decide (dh.1 = (0:Int)), dh.2.L, dh.2.At) else J8 (false, aU.2.L, aU.2.At))) (en, m_9, fZ)) fun J3 => bnd (bn (aQ.mk m_4 m_5) (5:Int)) fun (aK : Int × aQ) => bif decide ((0:Int) < aK.1) then bnd (eR m_3 ([(ah.mk (m_3.length:Int) e1.ID (3:Int) e1.ID)] : List ah)) fun (l_1 : List ah) => J3 (aK.2.L, aK.2.At, l_1) else J3 (aK.2.L, aK.2.At, m_3)) (fun (sg : (List ah) × (List Int) × Int) => match sg with | (m_3, m_4, m_5) => bnd (pT m_3 (0:Int) (if ay.1 < (m_3.length:Int) then ay.1 else (m_3.length:Int))) fun (l_4 : List ah) => jn (fun (sg : (List Int) × Int × (List ah)) => match sg with | (mo, pX, pY) => some ((aM.mk ay.1 pY), (aQ.mk mo pX))) fun J9 => jn (fun (sg : Bool × (List Int) × Int) => match sg with | (v_4, mQ, mR) => bif v_4 then bY l_4 0 (fun (j3 : Int) (e3 : ah) (Z3 : (List ah) → Option _) (kR : (List ah)) => bnd (elO kR (j3 : Int)) fun (e_2 : ah) => bnd (tw kR (j3 : Int) (ah.mk (w64 (e_2.Bit + (w64 (ay.1 - (kR.length:Int))))) e_2.aR e_2.Kind e_2.To)) fun (l_5 : List ah) => Z3 l_5) (fun (kR : (List ah)) => J9 (mQ, mR, kR)) l_4 else J9 (mQ, mR, l_4)) fun J10 => bnd (bn (aQ.mk m_4 m_5) (3:Int)) fun (de : Int × aQ) => (bif decide (de.1 = (0:Int)) then J10 (decide ((l_4.length:Int) < ay.1), de.2.L, de.2.At) else J10 (false, de.2.L, de.2.At))) ([], m_1, m_2)) fun J1 => (bif decide (aV.2 = (0:Int)) then bnd (bn ay.2 (2:Int)) fun (bu : Int × aQ) => J1 (decide (bu.1 = (0:Int)), bu.2.L, bu.2.At) else J1 (false, ay.2.L, ay.2.At))
end
end Go.Proofs.Ytdjeacigeegklaa

/- Functions of the program, written lz. No condition but bL aY stand in each. -/
namespace Go.Proofs.Ytdjeacigeegklaa
open Go
set_option maxRecDepth 100000
set_option linter.all false
noncomputable section
def fR (n : Int) : Option Bool :=
 some ((decide (n = (8:Int))) || ((decide (n = (16:Int))) || ((decide (n = (32:Int))) || (decide (n = (64:Int))))))
def nx (length : Int) : Option Int :=
 bnd (fR length) fun (ay : Bool) => bif !ay then some (0:Int) else chk (decide (0 ≤ w64 ((64:Int) - length))) <| some (Int.fdiv (18446744073709551615:Int) (2 ^ min (w64 ((64:Int) - length)).toNat 64))
def kT (b : Int) (length : Int) : Option Bool :=
 bnd (fR length) fun (ay : Bool) => (bif ay then bnd (nx length) fun (aV : Int) => some (decide (bH .andNot .u64 b aV = (0:Int))) else some false)
def iH (n : Int) : Option Bool :=
 some ((decide ((1:Int) ≤ n)) && (decide (n ≤ (99:Int))))
def kU (a : ah) : Option bZ :=
 some (bZ.mk a.aR a.Kind a.To)
def fE (e : aM) : Option Int :=
 bnd (fR e.Length) fun (ay : Bool) => bif !ay then some (2:Int) else bY e.List 0 (fun (j1 : Int) (e1 : ah) (Z1 : Unit → Option _) (sg : Unit) => match sg with | () => jn (fun (v_1 : Bool) => bif v_1 then some (2:Int) else Z1 ()) fun J1 => (bif decide (e1.Bit < (0:Int)) then J1 true else (bif decide (e.Length ≤ e1.Bit) then J1 true else bnd (iH e1.aR) fun (aV : Bool) => (bif !aV then J1 true else bnd (iH e1.To) fun (bu : Bool) => J1 (!bu))))) (fun (sg : Unit) => match sg with | () => bY e.List 0 (fun (j2 : Int) (e2 : ah) (Z2 : Unit → Option _) (sg : Unit) => match sg with | () => bif ((decide (e2.Kind < (1:Int))) || (decide ((3:Int) < e2.Kind))) then some (1:Int) else Z2 ()) (fun (sg : Unit) => match sg with | () => bY e.List 0 (fun (j3 : Int) (e3 : ah) (Z3 : Unit → Option _) (sg : Unit) => match sg with | () => bif !((decide (e3.To = e3.aR)) == (decide (e3.Kind = (3:Int)))) then some (8:Int) else Z3 ()) (fun (sg : Unit) => match sg with | () => bY (List.drop 1 e.List) 1 (fun (j4 : Int) (e4 : ah) (Z4 : Unit → Option _) (sg : Unit) => match sg with | () => bnd (elO e.List (w64 ((j4 : Int) - (1:Int)))) fun (e_1 : ah) => bif decide (e4.Bit ≤ e_1.Bit) then some (25:Int) else Z4 ()) (fun (sg : Unit) => match sg with | () => bY e.List 0 (fun (j5 : Int) (e5 : ah) (Z5 : (List (bZ × Bool)) → Option _) (m_1 : (List (bZ × Bool))) => bnd (kU e5) fun (aK : bZ) => bif ((gX cZ m_1 aK).getD false) then some (5:Int) else bnd (kU e5) fun (cO : bZ) => Z5 (mO cZ m_1 cO true)) (fun (m_1 : (List (bZ × Bool))) => some (0:Int)) []) ()) ()) ()) ()
def jS (e : aM) (bW : Int) : Option Int :=
 jn (fun (b_1 : Int) => some b_1) fun J1 => bnd (fE e) fun (ay : Int) => bif decide (ay = (0:Int)) then bY e.List 0 (fun (j1 : Int) (e1 : ah) (Z1 : Int → Option _) (b_2 : Int) => jn (fun (b_3 : Int) => Z1 b_3) fun J2 => bif decide (e1.aR = bW) then chk (decide (0 ≤ e1.Bit)) <| J2 (bH .or .u64 b_2 (IntKind.wrap .u64 ((1:Int) * 2 ^ min e1.Bit.toNat 64))) else J2 b_2) (fun (b_2 : Int) => J1 b_2) (0:Int) else J1 (0:Int)
end
end Go.Proofs.Ytdjeacigeegklaa

/- Functions of the program, written lz. No condition but bL aY stand in each. -/
namespace Go.Proofs.Ytdjeacigeegklaa
open Go
set_option maxRecDepth 100000
set_option linter.all false
noncomputable section
def kg (a : az) (b : az) : Option Int :=
 bnd (eo a.to_ b.to_) fun (ay : Int) => some ay
end
end Go.Proofs.Ytdjeacigeegklaa

/- Functions of the program, written lz. No condition but bL aY stand in each. -/
namespace Go.Proofs.Ytdjeacigeegklaa
open Go
set_option maxRecDepth 100000
set_option linter.all false
noncomputable section
def ic (t : aa) : Option Bool :=
 bnd (gp t) fun (ay : Int) => some (decide (ay = (0:Int)))
def jT (t : aa) : Option eD :=
 bY t.aC 0 (fun (j1 : Int) (e1 : aP) (Z1 : ((List (Int × List az)) × (List (Int × List az))) → Option _) (sg : (List (Int × List az)) × (List (Int × List az))) => match sg with | (m_1, m_2) => Z1 (bB m_1 e1.ID [], bB m_2 e1.ID [])) (fun (sg : (List (Int × List az)) × (List (Int × List az))) => match sg with | (m_1, m_2) => bY t.Links 0 (fun (j2 : Int) (e2 : bf) (Z2 : ((List (Int × List az)) × (List (Int × List az))) → Option _) (sg : (List (Int × List az)) × (List (Int × List az))) => match sg with | (m_3, m_4) => bnd (eR ((aD m_3 e2.A).getD []) ([(az.mk e2.B e2.jL)] : List az)) fun (l_1 : List az) => bnd (eR ((aD (bB m_3 e2.A l_1) e2.B).getD []) ([(az.mk e2.A e2.jM)] : List az)) fun (l_2 : List az) => bnd (eR ((aD m_4 e2.B).getD []) ([(az.mk e2.A e2.jL)] : List az)) fun (l_3 : List az) => bnd (eR ((aD (bB m_4 e2.B l_3) e2.A).getD []) ([(az.mk e2.B e2.jM)] : List az)) fun (l_4 : List az) => Z2 (bB (bB m_3 e2.A l_1) e2.B l_2, bB (bB m_4 e2.B l_3) e2.A l_4)) (fun (sg : (List (Int × List az)) × (List (Int × List az))) => match sg with | (m_3, m_4) => bnd (pJ m_3 (fun (n_1 : Int) (v_1 : List az) (m_5 : (List (Int × List az))) => chk (aD m_5 n_1).isSome <| bnd (oz (jk [fun x : az => x.to_]) ((aD m_5 n_1).getD [])) fun (l_5 : List az) => some (bB m_5 n_1 l_5)) m_3) fun (R1 : (List (Int × List az))) => some (eD.mk R1 m_4)) (m_1, m_2)) (([] : List (Int × List az)), ([] : List (Int × List az)))
def eG (links : List (Int × List az)) (cI : Int) : Option (List (Int × Int)) :=
 bif !((aD links cI).isSome) then some [] else jn (fun (sg : (List (Int × Int)) × (List (Int × Int))) => match sg with | (m_1, m_2) => some m_1) fun J1 => whl (fun (Z1 : ((List (Int × Int)) × (List (Int × Int))) → Option _) (sg : (List (Int × Int)) × (List (Int × Int))) => match sg with | (m_3, m_4) => bif decide ((0:Int) < (m_4.length:Int)) then bnd (pJ m_4 (fun (n_1 : Int) (v_1 : Int) (cS : Int) => bif ((decide (cS = (0:Int))) || ((decide (v_1 < ((aD m_4 cS).getD (0:Int)))) || ((decide (v_1 = ((aD m_4 cS).getD (0:Int)))) && (decide (n_1 < cS))))) then some n_1 else some cS) (0:Int)) fun (R1 : Int) => bif decide (((bB m_3 R1 ((aD m_4 R1).getD (0:Int))).length:Int) = (links.length:Int)) then J1 (bB m_3 R1 ((aD m_4 R1).getD (0:Int)), lT m_4 R1) else bY ((aD links R1).getD []) 0 (fun (j2 : Int) (e2 : az) (Z2 : (List (Int × Int)) → Option _) (m_5 : (List (Int × Int))) => jn (fun (m_6 : (List (Int × Int))) => Z2 m_6) fun J2 => bif (aD (bB m_3 R1 ((aD m_4 R1).getD (0:Int))) e2.to_).isSome then J2 m_5 else bif ((!((aD m_5 e2.to_).isSome)) || (decide (w64 (((aD m_4 R1).getD (0:Int)) + e2.eY) < ((aD m_5 e2.to_).getD (0:Int))))) then J2 (bB m_5 e2.to_ (w64 (((aD m_4 R1).getD (0:Int)) + e2.eY))) else J2 m_5) (fun (m_5 : (List (Int × Int))) => Z1 (bB m_3 R1 ((aD m_4 R1).getD (0:Int)), m_5)) (lT m_4 R1) else J1 (m_3, m_4)) ([], bB [] cI (0:Int))
def gy (g : eD) (eM : List (Int × Int)) (ep : Int) : Option (List Int) :=
 bif !((aD eM ep).isSome) then some [] else bY ((aD g.jZ ep).getD []) 0 (fun (j1 : Int) (e1 : az) (Z1 : (List Int) → Option _) (er : (List Int)) => jn (fun (fQ : (List Int)) => Z1 fQ) fun J1 => bif (((aD eM e1.to_).isSome) && (decide (w64 (e1.eY + ((aD eM e1.to_).getD (0:Int))) = ((aD eM ep).getD (0:Int))))) then bnd (eR er ([e1.to_] : List Int)) fun (l_1 : List Int) => J1 l_1 else J1 er) (fun (er : (List Int)) => some er) []
def jo (t : aa) (cI : Int) (fD : Int) : Option (List Int) :=
 jn (fun (v_1 : Bool) => bif v_1 then some [] else bnd (jT t) fun (aV : eD) => bnd (eG aV.in_ fD) fun (bu : (List (Int × Int))) => whl (fun (Z1 : ((List Int) × Int) → Option _) (sg : (List Int) × Int) => match sg with | (er, iL) => bif !decide (iL = fD) then bnd (gy aV bu iL) fun (aK : (List Int)) => bif decide ((aK.length:Int) = (0:Int)) then some [] else bnd (elO aK (0:Int)) fun (e_1 : Int) => bnd (eR er ([e_1] : List Int)) fun (l_1 : List Int) => bnd (elO l_1 (w64 ((l_1.length:Int) - (1:Int)))) fun (e_2 : Int) => Z1 (l_1, e_2) else some er) ([], cI)) fun J1 => bnd (ic t) fun (ay : Bool) => (bif !ay then J1 true else J1 (decide (cI = fD)))
end
end Go.Proofs.Ytdjeacigeegklaa

/- Functions of the program, written lz. No condition but bL aY stand in each. -/
namespace Go.Proofs.Ytdjeacigeegklaa
open Go
set_option maxRecDepth 100000
set_option linter.all false
noncomputable section
def iq (n : Int) (most : Int) : Option Bool :=
 some ((decide ((0:Int) ≤ n)) && (decide (n ≤ most)))
def ig (p : aS) : Option Bool :=
 (bif decide ((1:Int) ≤ p.Mode) then (bif decide (p.Mode ≤ (3:Int)) then bnd (iq p.bQ (7:Int)) fun (ay : Bool) => (bif ay then bnd (iq p.Set (31:Int)) fun (aV : Bool) => (bif aV then bnd (kT p.Bits p.Length) fun (bu : Bool) => (bif bu then bnd (iq p.TTL (63:Int)) fun (aK : Bool) => (bif aK then bnd (iq p.cv (1023:Int)) fun (cO : Bool) => (bif cO then bnd (iq p.cw (256:Int)) fun (aU : Bool) => (bif aU then bnd (iq p.dx (7:Int)) fun (dh : Bool) => (bif dh then some (decide ((p.cz.size:Int) ≤ (64:Int))) else some false) else some false) else some false) else some false) else some false) else some false) else some false) else some false) else some false)
def jF (p : aS) (bit : Int) : Option aS :=
 jn (fun (v_1 : Bool) => bif v_1 then some (aS.mk (0:Int) (0:Int) (0:Int) (0:Int) (0:Int) (0:Int) (0:Int) (0:Int) (0:Int) (⟨#[]⟩ : ByteArray)) else chk (decide (0 ≤ bit)) <| some (aS.mk p.Mode p.bQ p.Set p.Length p.TTL p.cv p.cw p.dx (IntKind.wrap .u64 ((1:Int) * 2 ^ min bit.toNat 64)) p.cz)) fun J1 => bnd (ig p) fun (ay : Bool) => (bif !ay then J1 true else (bif decide (bit < (0:Int)) then J1 true else (bif decide ((63:Int) < bit) then J1 true else chk (decide (0 ≤ bit)) <| J1 (decide (bH .and .u64 (Int.fdiv p.Bits (2 ^ min bit.toNat 64)) (1:Int) = (0:Int))))))
def gz (e : aM) (p : aS) : Option Int :=
 bif !decide (p.Mode = (2:Int)) then some (7:Int) else bif !decide (p.Length = e.Length) then some (8:Int) else some (0:Int)
def gb (e : aM) (bW : Int) (p : aS) : Option (fI × (List aX)) :=
 bnd (jS e bW) fun (ay : Int) => bY e.List 0 (fun (j1 : Int) (e1 : ah) (Z1 : ((List aX) × Int × Int × (List gU)) → Option _) (sg : (List aX) × Int × Int × (List gU)) => match sg with | (gd, m_1, m_2, m_3) => jn (fun (sg : (List aX) × Int × Int × (List gU)) => match sg with | (qs, m_4, m_5, m_6) => Z1 (qs, m_4, m_5, m_6)) fun J1 => chk (decide (0 ≤ e1.Bit)) <| bif ((!decide (e1.aR = bW)) || (decide (bH .and .u64 p.Bits (IntKind.wrap .u64 ((1:Int) * 2 ^ min e1.Bit.toNat 64)) = (0:Int)))) then J1 (gd, m_1, m_2, m_3) else bif decide (e1.Kind = (3:Int)) then J1 (gd, bH .or .u64 m_1 (IntKind.wrap .u64 ((1:Int) * 2 ^ min e1.Bit.toNat 64)), m_2, m_3) else bif decide (p.TTL = (0:Int)) then J1 (gd, m_1, bH .or .u64 m_2 (IntKind.wrap .u64 ((1:Int) * 2 ^ min e1.Bit.toNat 64)), m_3) else bif !decide (bH .andNot .u64 p.Bits ay = (0:Int)) then jn (fun (m_7 : (List Int)) => bnd (eR m_3 ([(gU.mk e1.To (nc.mk m_7 (aS.mk p.Mode p.bQ p.Set p.Length (w64 (p.TTL - (1:Int))) p.cv p.cw p.dx (bH .andNot .u64 p.Bits ay) p.cz)))] : List gU)) fun (l_1 : List gU) => bnd (eR gd ([(aX.mk e1 (gU.mk e1.To (nc.mk m_7 (aS.mk p.Mode p.bQ p.Set p.Length (w64 (p.TTL - (1:Int))) p.cv p.cw p.dx (bH .andNot .u64 p.Bits ay) p.cz))))] : List aX)) fun (l_2 : List aX) => J1 (l_2, m_1, m_2, l_1)) fun J2 => bif decide (e1.Kind = (2:Int)) then J2 ([e1.To] : List Int) else J2 [] else J1 (gd, m_1, m_2, m_3)) (fun (sg : (List aX) × Int × Int × (List gU)) => match sg with | (gd, m_1, m_2, m_3) => some ((fI.mk m_1 m_2 m_3), gd)) ([], (0:Int), (0:Int), [])
def gL (e : aM) (bW : Int) (p : aS) : Option (fI × Int) :=
 jn (fun (v_1 : Bool) => bif v_1 then some ((fI.mk (0:Int) (0:Int) []), (1:Int)) else bnd (gz e p) fun (bu : Int) => bif !decide (bu = (0:Int)) then some ((fI.mk (0:Int) (0:Int) []), bu) else bnd (gb e bW p) fun (aK : fI × (List aX)) => some (aK.1, (0:Int))) fun J1 => bnd (fE e) fun (ay : Int) => (bif !decide (ay = (0:Int)) then J1 true else bnd (ig p) fun (aV : Bool) => J1 (!aV))
def gr (t : aa) (bW : Int) (a : ah) : Option ((List Int) × Bool) :=
 bif decide (a.Kind = (2:Int)) then bnd (jo t bW a.To) fun (ay : (List Int)) => some (ay, decide ((0:Int) < (ay.length:Int))) else bnd (jR t bW a.To) fun (aV : Int × Bool) => some (([a.To] : List Int), aV.2)
def fO (e : aM) (t : aa) (p : aS) (bW : Int) : Option (eF × Int) :=
 jn (fun (v_1 : Bool) => bif v_1 then some ((eF.mk [] [] []), (1:Int)) else bnd (kJ t bW) fun (aK : Bool) => bif !aK then some ((eF.mk [] [] []), (4:Int)) else bnd (gz e p) fun (cO : Int) => bif !decide (cO = (0:Int)) then some ((eF.mk [] [] []), cO) else whl (fun (Z1 : ((List aB) × (List cA) × (List bp) × (List cH)) → Option _) (sg : (List aB) × (List cA) × (List bp) × (List cH)) => match sg with | (jG, m_1, m_2, m_3) => bif decide ((0:Int) < (jG.length:Int)) then bnd (elO jG (0:Int)) fun (e_1 : aB) => bnd (gb e e_1.bq e_1.bA) fun (aU : fI × (List aX)) => bY e.List 0 (fun (j2 : Int) (e2 : ah) (Z2 : (List cA) → Option _) (m_4 : (List cA)) => jn (fun (m_5 : (List cA)) => Z2 m_5) fun J2 => chk (decide (0 ≤ e2.Bit)) <| bif decide (bH .and .u64 (Int.fdiv aU.1.Local (2 ^ min e2.Bit.toNat 64)) (1:Int) = (1:Int)) then bnd (jF e_1.bA e2.Bit) fun (dh : aS) => bnd (eR m_4 ([(cA.mk e_1.bq dh)] : List cA)) fun (l_1 : List cA) => J2 l_1 else J2 m_4) (fun (m_4 : (List cA)) => jn (fun (m_6 : (List cH)) => bY aU.2 0 (fun (j3 : Int) (e3 : aX) (Z3 : ((List aB) × (List bp) × (List cH)) → Option _) (sg : (List aB) × (List bp) × (List cH)) => match sg with | (gf, m_7, m_8) => jn (fun (sg : (List aB) × (List bp) × (List cH)) => match sg with | (lR, m_9, fZ) => Z3 (lR, m_9, fZ)) fun J4 => bnd (gr t e_1.bq e3.eE) fun (de : (List Int) × Bool) => bif !de.2 then chk (decide (0 ≤ e3.eE.Bit)) <| bnd (eR m_8 ([(cH.mk e_1.bq (IntKind.wrap .u64 ((1:Int) * 2 ^ min e3.eE.Bit.toNat 64)))] : List cH)) fun (l_3 : List cH) => J4 (gf, m_7, l_3) else bY de.1 0 (fun (j4 : Int) (e4 : Int) (Z4 : (Int × (List bp)) → Option _) (sg : Int × (List bp)) => match sg with | (gh, en) => bnd (eR en ([(bp.mk gh e4 e3.copy_.Frame.aJ.Bits)] : List bp)) fun (l_4 : List bp) => Z4 (e4, l_4)) (fun (sg : Int × (List bp)) => match sg with | (gh, en) => bif decide ((2000:Int) < (en.length:Int)) then some ((eF.mk [] [] []), (11:Int)) else bnd (eR gf ([(aB.mk gh e3.copy_.Frame.aJ)] : List aB)) fun (l_5 : List aB) => J4 (l_5, en, m_8)) (e_1.bq, m_7)) (fun (sg : (List aB) × (List bp) × (List cH)) => match sg with | (gf, m_7, m_8) => bnd (pT gf (1:Int) (gf.length:Int)) fun (l_6 : List aB) => Z1 (l_6, m_4, m_7, m_8)) (jG, m_2, m_6)) fun J3 => bif !decide (aU.1.mg = (0:Int)) then bnd (eR m_3 ([(cH.mk e_1.bq aU.1.mg)] : List cH)) fun (l_2 : List cH) => J3 l_2 else J3 m_3) m_1 else some ((eF.mk m_1 m_2 m_3), (0:Int))) (([(aB.mk bW p)] : List aB), [], [], [])) fun J1 => bnd (fE e) fun (ay : Int) => (bif !decide (ay = (0:Int)) then J1 true else bnd (gp t) fun (aV : Int) => (bif !decide (aV = (0:Int)) then J1 true else bnd (ig p) fun (bu : Bool) => J1 (!bu)))
end
end Go.Proofs.Ytdjeacigeegklaa

/- Functions of the program, written lz. No condition but bL aY stand in each. -/
namespace Go.Proofs.Ytdjeacigeegklaa
open Go
set_option maxRecDepth 100000
set_option linter.all false
noncomputable section
end
end Go.Proofs.Ytdjeacigeegklaa
