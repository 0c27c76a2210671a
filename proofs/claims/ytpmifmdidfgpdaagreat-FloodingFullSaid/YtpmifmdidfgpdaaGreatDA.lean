/- Several texts in one. No condition but those that stand in each. -/
import Derived.Test.YtpmifmdidfgpdaaGreatT
/- Functions of the program, written gB. No condition but bU bB stand in each. -/
namespace Go.Proofs.YtpmifmdidfgpdaaGreat
open Go
set_option maxRecDepth 100000
set_option linter.all false
end Go.Proofs.YtpmifmdidfgpdaaGreat

/- Functions of the program, written gB. No condition but bU bB stand in each. -/
namespace Go.Proofs.YtpmifmdidfgpdaaGreat
open Go
set_option maxRecDepth 100000
set_option linter.all false
def oA (n : Int) : Option Bool :=
 some ((decide ((1:Int) ≤ n)) && (decide (n ≤ (1000:Int))))
def lZ (t : aH) (ra1 : Int) : Option Bool :=
 bO t.aK 0 (fun (j1 : Int) (e1 : aX) (Z1 : Unit → Option _) (sg : Unit) => match sg with | () => bif decide (e1.ID = ra1) then some true else Z1 ()) (fun (sg : Unit) => match sg with | () => some false) ()
def jO (t : aH) (ef : Int) (jq : Int) : Option (Int × Bool) :=
 bO t.Links 0 (fun (j1 : Int) (e1 : aT) (Z1 : Unit → Option _) (sg : Unit) => match sg with | () => bif ((decide (e1.A = ef)) && (decide (e1.B = jq))) then some (e1.jh, true) else bif ((decide (e1.B = ef)) && (decide (e1.A = jq))) then some (e1.iN, true) else Z1 ()) (fun (sg : Unit) => match sg with | () => some ((0:Int), false)) ()
def iG (t : aH) : Option Int :=
 bif ((decide ((24:Int) < (t.aK.length:Int))) || (decide ((60:Int) < (t.Links.length:Int)))) then some (3:Int) else bO t.aK 0 (fun (j1 : Int) (e1 : aX) (Z1 : Unit → Option _) (sg : Unit) => match sg with | () => bif ((decide (e1.ID < (1:Int))) || (decide ((99:Int) < e1.ID))) then some (2:Int) else Z1 ()) (fun (sg : Unit) => match sg with | () => bO (List.drop 1 t.aK) 1 (fun (j2 : Int) (e2 : aX) (Z2 : Unit → Option _) (sg : Unit) => match sg with | () => bnd (elO t.aK (w64 ((j2 : Int) - (1:Int)))) fun (e_1 : aX) => bif decide (e2.ID ≤ e_1.ID) then some (25:Int) else Z2 ()) (fun (sg : Unit) => match sg with | () => bO t.Links 0 (fun (j3 : Int) (e3 : aT) (Z3 : Unit → Option _) (sg : Unit) => match sg with | () => jn (fun (v_1 : Bool) => bif v_1 then some (2:Int) else Z3 ()) fun J1 => bnd (oA e3.jh) fun (af : Bool) => (bif !af then J1 true else bnd (oA e3.iN) fun (ay : Bool) => (bif !ay then J1 true else (bif decide (e3.bY < (0:Int)) then J1 true else J1 (decide ((1000:Int) < e3.bY)))))) (fun (sg : Unit) => match sg with | () => bO t.Links 0 (fun (j4 : Int) (e4 : aT) (Z4 : Unit → Option _) (sg : Unit) => match sg with | () => jn (fun (v_2 : Bool) => bif v_2 then some (4:Int) else Z4 ()) fun J2 => bnd (lZ t e4.A) fun (aJ : Bool) => (bif !aJ then J2 true else bnd (lZ t e4.B) fun (bk : Bool) => J2 (!bk))) (fun (sg : Unit) => match sg with | () => bO t.Links 0 (fun (j5 : Int) (e5 : aT) (Z5 : Unit → Option _) (sg : Unit) => match sg with | () => bif decide (e5.B ≤ e5.A) then some (8:Int) else Z5 ()) (fun (sg : Unit) => match sg with | () => bO (List.drop 1 t.Links) 1 (fun (j6 : Int) (e6 : aT) (Z6 : Unit → Option _) (sg : Unit) => match sg with | () => bnd (elO t.Links (w64 ((j6 : Int) - (1:Int)))) fun (e_2 : aT) => bif ((decide (e6.A < e_2.A)) || ((decide (e_2.A = e6.A)) && (decide (e6.B ≤ e_2.B)))) then some (25:Int) else Z6 ()) (fun (sg : Unit) => match sg with | () => some (0:Int)) ()) ()) ()) ()) ()) ()
def rW (xa0 : Int) (n : Int) : Option Int :=
 bif decide (n < (1:Int)) then some (0:Int) else chk (decide (n ≠ 0)) <| jn (fun (af : Int) => some af) fun J1 => bif decide (Int.tmod xa0 n < (0:Int)) then J1 (w64 ((Int.tmod xa0 n) + n)) else J1 (Int.tmod xa0 n)
def nK (t : aQ) : Option (Int × aQ) :=
 bif decide ((t.L.length:Int) ≤ t.At) then some ((0:Int), t) else bnd (elO t.L (w64 ((w64 (t.At + (1:Int))) - (1:Int)))) fun (e_1 : Int) => some (e_1, (aQ.mk t.L (w64 (t.At + (1:Int)))))
def bV (t : aQ) (n : Int) : Option (Int × aQ) :=
 bnd (nK t) fun (af : Int × aQ) => bnd (rW af.1 n) fun (ay : Int) => some (ay, af.2)
def dL (t : aQ) (low : Int) (high : Int) : Option (Int × aQ) :=
 bnd (bV t (w64 ((w64 (high - low)) + (1:Int)))) fun (af : Int × aQ) => some (w64 (low + af.1), af.2)
end Go.Proofs.YtpmifmdidfgpdaaGreat

/- Functions of the program, written gB. No condition but bU bB stand in each. -/
namespace Go.Proofs.YtpmifmdidfgpdaaGreat
open Go
set_option maxRecDepth 100000
set_option linter.all false
def pE (t : aH) (ra1 : Int) : Option Bool :=
 bnd (iG t) fun (af : Int) => (bif decide (af = (0:Int)) then bnd (lZ t ra1) fun (ay : Bool) => some ay else some false)
def iz (t : aH) (ra1 : Int) : Option Bool :=
 bnd (iG t) fun (af : Int) => bif !decide (af = (0:Int)) then some false else bO t.aK 0 (fun (j1 : Int) (e1 : aX) (Z1 : Unit → Option _) (sg : Unit) => match sg with | () => bif decide (e1.ID = ra1) then some e1.aW else Z1 ()) (fun (sg : Unit) => match sg with | () => some false) ()
def oB (t : aH) (ra1 : Int) : Option (List Int) :=
 bO t.aK 0 (fun (j1 : Int) (e1 : aX) (Z1 : (List Int) → Option _) (dy : (List Int)) => jn (fun (oR : (List Int)) => Z1 oR) fun J1 => bnd (jO t ra1 e1.ID) fun (af : Int × Bool) => bif af.2 then bnd (cI dy ([e1.ID] : List Int)) fun (l_1 : List Int) => J1 l_1 else J1 dy) (fun (dy : (List Int)) => some dy) []
def oC (a : aH) (b : aH) : Option Bool :=
 bif ((!decide ((a.aK.length:Int) = (b.aK.length:Int))) || (!decide ((a.Links.length:Int) = (b.Links.length:Int)))) then some false else bO a.aK 0 (fun (j1 : Int) (e1 : aX) (Z1 : Unit → Option _) (sg : Unit) => match sg with | () => bnd (elO b.aK (j1 : Int)) fun (e_1 : aX) => bif !(sF e1 e_1) then some false else Z1 ()) (fun (sg : Unit) => match sg with | () => bO a.Links 0 (fun (j2 : Int) (e2 : aT) (Z2 : Unit → Option _) (sg : Unit) => match sg with | () => bnd (elO b.Links (j2 : Int)) fun (e_2 : aT) => bif !(vu e2 e_2) then some false else Z2 ()) (fun (sg : Unit) => match sg with | () => some true) ()) ()
end Go.Proofs.YtpmifmdidfgpdaaGreat

/- Functions of the program, written gB. No condition but bU bB stand in each. -/
namespace Go.Proofs.YtpmifmdidfgpdaaGreat
open Go
set_option maxRecDepth 100000
set_option linter.all false
def cS (t : aQ) (l : List Int) : Option (Int × aQ) :=
 bnd (bV t (l.length:Int)) fun (af : Int × aQ) => bnd (elO l af.1) fun (e_1 : Int) => some (e_1, af.2)
def fk (t : aQ) (n : Int) : Option (Bool × aQ) :=
 bnd (bV t n) fun (af : Int × aQ) => some (decide (af.1 = w64 (n - (1:Int))), af.2)
def eO (t : aQ) : Option (Int × aQ) :=
 bnd (cS t ([(-1:Int), (0:Int), (1:Int), (7:Int), (8:Int), (23:Int), (24:Int), (31:Int), (32:Int), (63:Int), (64:Int), (99:Int), (100:Int), (255:Int), (256:Int), (257:Int), (1000:Int), (1001:Int), (1023:Int), (1024:Int), (1000000:Int), (1000001:Int), (1099511627776:Int), (9223372036854775807:Int), (-9223372036854775808:Int)] : List Int)) fun (af : Int × aQ) => some (af.1, af.2)
def iZ (t : aQ) : Option (Int × aQ) :=
 bnd (cS t ([(8:Int), (8:Int), (16:Int), (32:Int), (64:Int)] : List Int)) fun (af : Int × aQ) => some (af.1, af.2)
def qZ (l : List aT) : Option (List aT) :=
 bO l 0 (fun (j1 : Int) (e1 : aT) (Z1 : (List aT) → Option _) (dy : (List aT)) => whl (fun (Z2 : Int → Option _) (oh : Int) => jn (fun (v_1 : Bool) => bif v_1 then Z2 (w64 (oh + (1:Int))) else bnd (kX dy (0:Int) oh) fun (l_1 : List aT) => bnd (cI [] l_1) fun (l_2 : List aT) => bnd (cI l_2 ([e1] : List aT)) fun (l_3 : List aT) => bnd (kX dy oh (dy.length:Int)) fun (l_4 : List aT) => bnd (cI l_3 l_4) fun (l_5 : List aT) => Z1 l_5) fun J1 => (bif decide (oh < (dy.length:Int)) then bnd (elO dy oh) fun (e_1 : aT) => (bif decide (e_1.A < e1.A) then J1 true else (bif decide (e_1.A = e1.A) then J1 (decide (e_1.B < e1.B)) else J1 false)) else J1 false)) (0:Int)) (fun (dy : (List aT)) => some dy) []
def um (l : List Int) : Option aQ :=
 jn (fun (l_1 : (List Int)) => some (aQ.mk l_1 (0:Int))) fun J1 => bif decide ((600:Int) < (l.length:Int)) then bnd (kX l (0:Int) (600:Int)) fun (l_2 : List Int) => J1 l_2 else J1 l
def jr (t : aQ) (most : Int) (n : Int) : Option (aH × aQ) :=
 bnd (dL t (1:Int) most) fun (af : Int × aQ) => chk (decide ((af.1 + 1) ≤ 9223372036854775807)) <| fW ((af.1 + 1) - (1:Int)).toNat (1:Int) (fun (j1 : Int) (Z1 : (List aX) → Option _) (m_1 : (List aX)) => bnd (cI m_1 ([(aX.mk (j1 : Int) true)] : List aX)) fun (l_1 : List aX) => Z1 l_1) (fun (j1 : Int) (m_1 : (List aX)) => bnd (cS af.2 ([(1:Int), (2:Int), (2:Int), (5:Int)] : List Int)) fun (ay : Int × aQ) => chk (decide ((af.1 + 1) ≤ 9223372036854775807)) <| fW ((af.1 + 1) - (2:Int)).toNat (2:Int) (fun (j2 : Int) (Z2 : ((List aT) × (List Int) × Int) → Option _) (sg : (List aT) × (List Int) × Int) => match sg with | (m_2, m_3, m_4) => bnd (dL (aQ.mk m_3 m_4) (1:Int) (w64 ((j2 : Int) - (1:Int)))) fun (aJ : Int × aQ) => bnd (fk aJ.2 (9:Int)) fun (bk : Bool × aQ) => chk (decide ((j2 : Int) ≤ 9223372036854775807)) <| fW ((j2 : Int) - (1:Int)).toNat (1:Int) (fun (j3 : Int) (Z3 : ((List aT) × (List Int) × Int) → Option _) (sg : (List aT) × (List Int) × Int) => match sg with | (m_5, m_6, m_7) => jn (fun (sg : (List Int) × Int × (List aT)) => match sg with | (m_8, m_9, gC) => Z3 (gC, m_8, m_9)) fun J1 => jn (fun (sg : Bool × (List Int) × Int) => match sg with | (v_1, gv, kY) => bif v_1 then bnd (dL (aQ.mk gv kY) (1:Int) ay.1) fun (cG : Int × aQ) => bnd (dL cG.2 (1:Int) ay.1) fun (cQ : Int × aQ) => bnd (bV cQ.2 (4:Int)) fun (dA : Int × aQ) => bnd (cI m_5 ([(aT.mk (j3 : Int) (j2 : Int) cG.1 cQ.1 dA.1)] : List aT)) fun (l_2 : List aT) => J1 (dA.2.L, dA.2.At, l_2) else J1 (gv, kY, m_5)) fun J2 => (bif decide ((j3 : Int) = aJ.1) then (bif !bk.1 then J2 (true, m_6, m_7) else bnd (fk (aQ.mk m_6 m_7) (3:Int)) fun (bF : Bool × aQ) => J2 (bF.1, bF.2.L, bF.2.At)) else bnd (fk (aQ.mk m_6 m_7) (3:Int)) fun (bR : Bool × aQ) => J2 (bR.1, bR.2.L, bR.2.At))) (fun (j3 : Int) (sg : (List aT) × (List Int) × Int) => match sg with | (m_5, m_6, m_7) => Z2 (m_5, m_6, m_7)) (m_2, bk.2.L, bk.2.At)) (fun (j2 : Int) (sg : (List aT) × (List Int) × Int) => match sg with | (m_2, m_3, m_4) => bnd (qZ m_2) fun (bN : (List aT)) => jn (fun (sg : (List Int) × Int × (List aX) × (List aT)) => match sg with | (s9, ta, uo, uq) => some ((aH.mk uo uq), (aQ.mk s9 ta))) fun J3 => jn (fun (sg : Bool × (List Int) × Int) => match sg with | (v_2, ri, rj) => bif v_2 then bnd (bV (aQ.mk ri rj) (7:Int)) fun (bZ : Int × aQ) => bif decide (bZ.1 = (0:Int)) then bnd (cS bZ.2 ([(0:Int), (1:Int), (99:Int), (100:Int), (-1:Int)] : List Int)) fun (fN : Int × aQ) => bnd (cI m_1 ([(aX.mk fN.1 false)] : List aX)) fun (l_3 : List aX) => J3 (fN.2.L, fN.2.At, l_3, bN) else bif decide (bZ.1 = (1:Int)) then bnd (bV bZ.2 (4:Int)) fun (jD : Int × aQ) => bnd (bV jD.2 (4:Int)) fun (ji : Int × aQ) => bnd (cI bN ([(aT.mk jD.1 ji.1 (1:Int) (1:Int) (0:Int))] : List aT)) fun (l_4 : List aT) => J3 (ji.2.L, ji.2.At, m_1, l_4) else bif decide (bZ.1 = (2:Int)) then bif decide ((0:Int) < (bN.length:Int)) then bnd (bV bZ.2 (bN.length:Int)) fun (kQ : Int × aQ) => bnd (eO kQ.2) fun (pT : Int × aQ) => bnd (elO bN kQ.1) fun (e_1 : aT) => bnd (iV bN kQ.1 (aT.mk e_1.A e_1.B pT.1 e_1.iN e_1.bY)) fun (l_5 : List aT) => J3 (pT.2.L, pT.2.At, m_1, l_5) else J3 (bZ.2.L, bZ.2.At, m_1, bN) else bif decide (bZ.1 = (3:Int)) then bif decide ((0:Int) < (bN.length:Int)) then bnd (bV bZ.2 (bN.length:Int)) fun (pU : Int × aQ) => bnd (eO pU.2) fun (lJ : Int × aQ) => bnd (elO bN pU.1) fun (e_2 : aT) => bnd (iV bN pU.1 (aT.mk e_2.A e_2.B e_2.jh lJ.1 e_2.bY)) fun (l_6 : List aT) => J3 (lJ.2.L, lJ.2.At, m_1, l_6) else J3 (bZ.2.L, bZ.2.At, m_1, bN) else bif decide (bZ.1 = (4:Int)) then bif decide ((0:Int) < (bN.length:Int)) then bnd (bV bZ.2 (bN.length:Int)) fun (ab4 : Int × aQ) => bnd (eO ab4.2) fun (uR : Int × aQ) => bnd (elO bN ab4.1) fun (e_3 : aT) => bnd (iV bN ab4.1 (aT.mk e_3.A e_3.B e_3.jh e_3.iN uR.1)) fun (l_7 : List aT) => J3 (uR.2.L, uR.2.At, m_1, l_7) else J3 (bZ.2.L, bZ.2.At, m_1, bN) else bif decide (bZ.1 = (5:Int)) then bif decide ((0:Int) < (bN.length:Int)) then bnd (bV bZ.2 (bN.length:Int)) fun (wB : Int × aQ) => bnd (elO bN wB.1) fun (e_4 : aT) => bnd (cI bN ([e_4] : List aT)) fun (l_8 : List aT) => J3 (wB.2.L, wB.2.At, m_1, l_8) else J3 (bZ.2.L, bZ.2.At, m_1, bN) else fW ((75:Int) - (50:Int)).toNat (50:Int) (fun (j4 : Int) (Z4 : (List aX) → Option _) (qd : (List aX)) => bnd (cI qd ([(aX.mk (j4 : Int) false)] : List aX)) fun (l_9 : List aX) => Z4 l_9) (fun (j4 : Int) (qd : (List aX)) => J3 (bZ.2.L, bZ.2.At, qd, bN)) m_1 else J3 (ri, rj, m_1, bN)) fun J4 => (bif decide ((0:Int) < n) then bnd (fk (aQ.mk m_3 m_4) n) fun (dI : Bool × aQ) => J4 (dI.1, dI.2.L, dI.2.At) else J4 (false, m_3, m_4))) ([], ay.2.L, ay.2.At)) []
end Go.Proofs.YtpmifmdidfgpdaaGreat

/- Functions of the program, written gB. No condition but bU bB stand in each. -/
namespace Go.Proofs.YtpmifmdidfgpdaaGreat
open Go
set_option maxRecDepth 100000
set_option linter.all false
def lK (xa0 : Int) : Option Bool :=
 some (!decide (xa0 = xa0))
def ee (xa0 : Int) (y : Int) : Option Int :=
 bnd (lK xa0) fun (af : Bool) => bnd (lK y) fun (ay : Bool) => bif af then bif ay then some (0:Int) else some (-1:Int) else bif ay then some (1:Int) else bif decide (xa0 < y) then some (-1:Int) else bif decide (y < xa0) then some (1:Int) else some (0:Int)
def mE (vals : List Int) : Option Int :=
 bO vals 0 (fun (j1 : Int) (e1 : Int) (Z1 : Unit → Option _) (sg : Unit) => match sg with | () => bif !decide (e1 = (0:Int)) then some e1 else Z1 ()) (fun (sg : Unit) => match sg with | () => some (0:Int)) ()
def cn (xa0 : List aX) (target : Int) (cmp : aX → Int → Option Int) : Option (Int × Bool) :=
 whl (fun (Z1 : (Int × Int) → Option _) (sg : Int × Int) => match sg with | (i_1, j_1) => bif decide (i_1 < j_1) then bnd (elO xa0 (w64 (Int.fdiv (IntKind.wrap .u64 (w64 (i_1 + j_1))) (2 ^ min (1:Int).toNat 64)))) fun (e_1 : aX) => bnd (cmp e_1 target) fun (af : Int) => bif decide (af < (0:Int)) then Z1 (w64 ((w64 (Int.fdiv (IntKind.wrap .u64 (w64 (i_1 + j_1))) (2 ^ min (1:Int).toNat 64))) + (1:Int)), j_1) else Z1 (i_1, w64 (Int.fdiv (IntKind.wrap .u64 (w64 (i_1 + j_1))) (2 ^ min (1:Int).toNat 64))) else (bif decide (i_1 < (xa0.length:Int)) then bnd (elO xa0 i_1) fun (e_2 : aX) => bnd (cmp e_2 target) fun (ay : Int) => some (i_1, decide (ay = (0:Int))) else some (i_1, false))) ((0:Int), (xa0.length:Int))
def ei (sa0 : List aZ) (f : aZ → Option Bool) : Option Int :=
 bO sa0 0 (fun (j1 : Int) (e1 : aZ) (Z1 : Unit → Option _) (sg : Unit) => match sg with | () => bnd (f e1) fun (af : Bool) => bif af then some (j1 : Int) else Z1 ()) (fun (sg : Unit) => match sg with | () => some (-1:Int)) ()
def cA (xa0 : List aT) (target : aT) (cmp : aT → aT → Option Int) : Option (Int × Bool) :=
 whl (fun (Z1 : (Int × Int) → Option _) (sg : Int × Int) => match sg with | (i_1, j_1) => bif decide (i_1 < j_1) then bnd (elO xa0 (w64 (Int.fdiv (IntKind.wrap .u64 (w64 (i_1 + j_1))) (2 ^ min (1:Int).toNat 64)))) fun (e_1 : aT) => bnd (cmp e_1 target) fun (af : Int) => bif decide (af < (0:Int)) then Z1 (w64 ((w64 (Int.fdiv (IntKind.wrap .u64 (w64 (i_1 + j_1))) (2 ^ min (1:Int).toNat 64))) + (1:Int)), j_1) else Z1 (i_1, w64 (Int.fdiv (IntKind.wrap .u64 (w64 (i_1 + j_1))) (2 ^ min (1:Int).toNat 64))) else (bif decide (i_1 < (xa0.length:Int)) then bnd (elO xa0 i_1) fun (e_2 : aT) => bnd (cmp e_2 target) fun (ay : Int) => some (i_1, decide (ay = (0:Int))) else some (i_1, false))) ((0:Int), (xa0.length:Int))
def dQ (sa0 : List aX) (f : aX → Option Bool) : Option Int :=
 bO sa0 0 (fun (j1 : Int) (e1 : aX) (Z1 : Unit → Option _) (sg : Unit) => match sg with | () => bnd (f e1) fun (af : Bool) => bif af then some (j1 : Int) else Z1 ()) (fun (sg : Unit) => match sg with | () => some (-1:Int)) ()
def en (sa0 : List aT) (f : aT → Option Bool) : Option Int :=
 bO sa0 0 (fun (j1 : Int) (e1 : aT) (Z1 : Unit → Option _) (sg : Unit) => match sg with | () => bnd (f e1) fun (af : Bool) => bif af then some (j1 : Int) else Z1 ()) (fun (sg : Unit) => match sg with | () => some (-1:Int)) ()
def dR (sa0 : List ak) (f : ak → Option Bool) : Option Int :=
 bO sa0 0 (fun (j1 : Int) (e1 : ak) (Z1 : Unit → Option _) (sg : Unit) => match sg with | () => bnd (f e1) fun (af : Bool) => bif af then some (j1 : Int) else Z1 ()) (fun (sg : Unit) => match sg with | () => some (-1:Int)) ()
def kZ (sa0 : List Int) (v : Int) : Option Int :=
 bO sa0 0 (fun (j1 : Int) (e1 : Int) (Z1 : Unit → Option _) (sg : Unit) => match sg with | () => bif decide (v = e1) then some (j1 : Int) else Z1 ()) (fun (sg : Unit) => match sg with | () => some (-1:Int)) ()
def fm (sa0 : List gb) (f : gb → Option Bool) : Option Int :=
 bO sa0 0 (fun (j1 : Int) (e1 : gb) (Z1 : Unit → Option _) (sg : Unit) => match sg with | () => bnd (f e1) fun (af : Bool) => bif af then some (j1 : Int) else Z1 ()) (fun (sg : Unit) => match sg with | () => some (-1:Int)) ()
def cC (xa0 : List ak) (target : Int) (cmp : ak → Int → Option Int) : Option (Int × Bool) :=
 whl (fun (Z1 : (Int × Int) → Option _) (sg : Int × Int) => match sg with | (i_1, j_1) => bif decide (i_1 < j_1) then bnd (elO xa0 (w64 (Int.fdiv (IntKind.wrap .u64 (w64 (i_1 + j_1))) (2 ^ min (1:Int).toNat 64)))) fun (e_1 : ak) => bnd (cmp e_1 target) fun (af : Int) => bif decide (af < (0:Int)) then Z1 (w64 ((w64 (Int.fdiv (IntKind.wrap .u64 (w64 (i_1 + j_1))) (2 ^ min (1:Int).toNat 64))) + (1:Int)), j_1) else Z1 (i_1, w64 (Int.fdiv (IntKind.wrap .u64 (w64 (i_1 + j_1))) (2 ^ min (1:Int).toNat 64))) else (bif decide (i_1 < (xa0.length:Int)) then bnd (elO xa0 i_1) fun (e_2 : ak) => bnd (cmp e_2 target) fun (ay : Int) => some (i_1, decide (ay = (0:Int))) else some (i_1, false))) ((0:Int), (xa0.length:Int))
def cV (sa0 : List aX) (f : aX → Option Bool) : Option Bool :=
 bnd (dQ sa0 f) fun (af : Int) => some (decide ((0:Int) ≤ af))
def cz (sa0 : List aT) (f : aT → Option Bool) : Option Bool :=
 bnd (en sa0 f) fun (af : Int) => some (decide ((0:Int) ≤ af))
def cW (sa0 : List ak) (f : ak → Option Bool) : Option Bool :=
 bnd (dR sa0 f) fun (af : Int) => some (decide ((0:Int) ≤ af))
def fq (sa0 : List Int) (v : Int) : Option Bool :=
 bnd (kZ sa0 v) fun (af : Int) => some (decide ((0:Int) ≤ af))
def eP (sa0 : List gb) (f : gb → Option Bool) : Option Bool :=
 bnd (fm sa0 f) fun (af : Int) => some (decide ((0:Int) ≤ af))
def iH (n : Int) (least : Int) (most : Int) : Option Bool :=
 some ((decide (least ≤ n)) && (decide (n ≤ most)))
def gV (a : aT) (b : aT) : Option Int :=
 bnd (ee a.A b.A) fun (af : Int) => bnd (ee a.B b.B) fun (ay : Int) => bnd (mE ([af, ay] : List Int)) fun (aJ : Int) => some aJ
def jE (ra0 : aX) (id : Int) : Option Int :=
 bnd (ee ra0.ID id) fun (af : Int) => some af
def lM (ra0 : aX) : Option Bool :=
 bnd (iH ra0.ID (1:Int) (99:Int)) fun (af : Bool) => some (!af)
def jt (l : aT) : Option Bool :=
 bnd (iH l.jh (1:Int) (1000:Int)) fun (af : Bool) => (bif !af then some true else bnd (iH l.iN (1:Int) (1000:Int)) fun (ay : Bool) => (bif !ay then some true else bnd (iH l.bY (0:Int) (1000:Int)) fun (aJ : Bool) => some (!aJ)))
def gW (id : Int) (c_0 : aH) : Option Bool :=
 bnd (cn c_0.aK id jE) fun (af : Int × Bool) => some (!af.2)
def lN (l : aT) (c_0 : aH) : Option Bool :=
 bnd (gW l.A c_0) fun (af : Bool) => (bif af then some true else bnd (gW l.B c_0) fun (ay : Bool) => some ay)
def lP (l : aT) : Option Bool :=
 some (decide (l.B ≤ l.A))
def gd (t : aH) : Option Int :=
 bif ((decide ((24:Int) < (t.aK.length:Int))) || (decide ((60:Int) < (t.Links.length:Int)))) then some (3:Int) else bnd (cV t.aK lM) fun (af : Bool) => bif af then some (2:Int) else bO t.aK 0 (fun (j1 : Int) (e1 : aX) (Z1 : Unit → Option _) (sg : Unit) => match sg with | () => jn (fun (v_1 : Bool) => bif v_1 then some (25:Int) else Z1 ()) fun J1 => (bif decide ((0:Int) < (j1 : Int)) then bnd (elO t.aK (w64 ((j1 : Int) - (1:Int)))) fun (e_1 : aX) => J1 (decide (e1.ID ≤ e_1.ID)) else J1 false)) (fun (sg : Unit) => match sg with | () => bnd (cz t.Links jt) fun (ay : Bool) => bif ay then some (2:Int) else bnd (cz t.Links (fun (y0 : aT) => lN y0 t)) fun (aJ : Bool) => bif aJ then some (4:Int) else bnd (cz t.Links lP) fun (bk : Bool) => bif bk then some (8:Int) else bO t.Links 0 (fun (j2 : Int) (e2 : aT) (Z2 : Unit → Option _) (sg : Unit) => match sg with | () => jn (fun (v_2 : Bool) => bif v_2 then some (25:Int) else Z2 ()) fun J2 => (bif decide ((0:Int) < (j2 : Int)) then bnd (elO t.Links (w64 ((j2 : Int) - (1:Int)))) fun (e_2 : aT) => bnd (gV e_2 e2) fun (bF : Int) => J2 (decide ((0:Int) ≤ bF)) else J2 false)) (fun (sg : Unit) => match sg with | () => some (0:Int)) ()) ()
def gf (t : aH) : Option Bool :=
 bnd (gd t) fun (af : Int) => some (decide (af = (0:Int)))
def jF (t : aH) (aL : Int) : Option (aX × Bool) :=
 bnd (cn t.aK aL jE) fun (af : Int × Bool) => bif !af.2 then some ((aX.mk (0:Int) false), false) else bnd (elO t.aK af.1) fun (e_1 : aX) => some (e_1, true)
def gX (t : aH) (aL : Int) : Option Bool :=
 bnd (jF t aL) fun (af : aX × Bool) => bnd (gf t) fun (ay : Bool) => (bif ay then some af.2 else some false)
def jv (t : aH) (aL : Int) : Option Bool :=
 bnd (jF t aL) fun (af : aX × Bool) => bnd (gf t) fun (ay : Bool) => (bif ay then some af.1.aW else some false)
def jG (t : aH) (ef : Int) (jq : Int) : Option (Int × Bool) :=
 bnd (gf t) fun (af : Bool) => bif !af then some ((0:Int), false) else bnd (cA t.Links (aT.mk (if jq < ef then jq else ef) (if jq > ef then jq else ef) (0:Int) (0:Int) (0:Int)) gV) fun (ay : Int × Bool) => bif !ay.2 then some ((0:Int), false) else bif decide (ef < jq) then bnd (elO t.Links ay.1) fun (e_1 : aT) => some (e_1.jh, true) else bnd (elO t.Links ay.1) fun (e_2 : aT) => some (e_2.iN, true)
end Go.Proofs.YtpmifmdidfgpdaaGreat

/- Functions of the program, written gB. No condition but bU bB stand in each. -/
namespace Go.Proofs.YtpmifmdidfgpdaaGreat
open Go
set_option maxRecDepth 100000
set_option linter.all false
def o7 (xa0 : Int) : Option Int :=
 jn (fun (sg : Int × Int) => match sg with | (af, n_1) => jn (fun (sg : Int × Int) => match sg with | (ay, n_2) => jn (fun (sg : Int × Int) => match sg with | (aJ, n_3) => bnd (ixS (⟨#[0, 1, 2, 2, 3, 3, 3, 3, 4, 4, 4, 4, 4, 4, 4, 4, 5, 5, 5, 5, 5, 5, 5, 5, 5, 5, 5, 5, 5, 5, 5, 5, 6, 6, 6, 6, 6, 6, 6, 6, 6, 6, 6, 6, 6, 6, 6, 6, 6, 6, 6, 6, 6, 6, 6, 6, 6, 6, 6, 6, 6, 6, 6, 6, 7, 7, 7, 7, 7, 7, 7, 7, 7, 7, 7, 7, 7, 7, 7, 7, 7, 7, 7, 7, 7, 7, 7, 7, 7, 7, 7, 7, 7, 7, 7, 7, 7, 7, 7, 7, 7, 7, 7, 7, 7, 7, 7, 7, 7, 7, 7, 7, 7, 7, 7, 7, 7, 7, 7, 7, 7, 7, 7, 7, 7, 7, 7, 7, 8, 8, 8, 8, 8, 8, 8, 8, 8, 8, 8, 8, 8, 8, 8, 8, 8, 8, 8, 8, 8, 8, 8, 8, 8, 8, 8, 8, 8, 8, 8, 8, 8, 8, 8, 8, 8, 8, 8, 8, 8, 8, 8, 8, 8, 8, 8, 8, 8, 8, 8, 8, 8, 8, 8, 8, 8, 8, 8, 8, 8, 8, 8, 8, 8, 8, 8, 8, 8, 8, 8, 8, 8, 8, 8, 8, 8, 8, 8, 8, 8, 8, 8, 8, 8, 8, 8, 8, 8, 8, 8, 8, 8, 8, 8, 8, 8, 8, 8, 8, 8, 8, 8, 8, 8, 8, 8, 8, 8, 8, 8, 8, 8, 8, 8, 8, 8, 8, 8, 8, 8, 8, 8, 8, 8, 8, 8, 8]⟩ : ByteArray) (IntKind.wrap .u8 aJ)) fun (b_1 : UInt8) => some (w64 (n_3 + (w64 (b_1.toNat : Int))))) fun J3 => bif decide ((256:Int) ≤ ay) then J3 (Int.fdiv ay (2 ^ min (8:Int).toNat 64), w64 (n_2 + (8:Int))) else J3 (ay, n_2)) fun J2 => bif decide ((65536:Int) ≤ af) then J2 (Int.fdiv af (2 ^ min (16:Int).toNat 64), w64 (n_1 + (16:Int))) else J2 (af, n_1)) fun J1 => bif decide ((4294967296:Int) ≤ xa0) then J1 (Int.fdiv xa0 (2 ^ min (32:Int).toNat 64), (32:Int)) else J1 (xa0, (0:Int))
def rq (xa0 : Int) : Option Int :=
 bnd (o7 xa0) fun (af : Int) => some af
def fP  : Option Unit :=
 whl (fun (Z1 : Unit → Option _) (sg : Unit) => match sg with | () => some ()) ()
def ij (limit : Int) : Option Unit :=
 whl (fun (Z1 : Unit → Option _) (sg : Unit) => match sg with | () => bnd (fP) fun (af : Unit) => some ()) ()
def nL  : Option Unit :=
 bnd (rq (0:Int)) fun (af : Int) => bnd (ij af) fun (ay : Unit) => some ()
end Go.Proofs.YtpmifmdidfgpdaaGreat

/- Functions of the program, written gB. No condition but bU bB stand in each. -/
namespace Go.Proofs.YtpmifmdidfgpdaaGreat
open Go
set_option maxRecDepth 100000
set_option linter.all false
def fR (t : aH) (aL : Int) : Option (List Int) :=
 bO t.Links 0 (fun (j1 : Int) (e1 : aT) (Z1 : (List Int) → Option _) (dy : (List Int)) => jn (fun (oR : (List Int)) => Z1 oR) fun J1 => bif decide (aL = e1.A) then bnd (cI dy ([e1.B] : List Int)) fun (l_1 : List Int) => J1 l_1 else bif decide (aL = e1.B) then bnd (cI dy ([e1.A] : List Int)) fun (l_2 : List Int) => J1 l_2 else J1 dy) (fun (dy : (List Int)) => chk (decide (dy.length < 4611686018427387904)) <| some (iM dy)) []
def j9 : Nat → Int → (List Int) → (List Int) → (List aX) → (List aT) → Option (List Int)
 | 0, _, _, _, _, _ => none
 | n_ + 1, ra0, vi, ur, uu, uv => jn (fun (v_1 : Bool) => bif v_1 then some vi else bnd (cI vi ([ra0] : List Int)) fun (l_1 : List Int) => bnd (fR (aH.mk uu uv) ra0) fun (aJ : (List Int)) => bO aJ 0 (fun (j1 : Int) (e1 : Int) (Z1 : (List Int) → Option _) (m_1 : (List Int)) => bnd (j9 n_ e1 m_1 ur uu uv) fun (bk : (List Int)) => Z1 bk) (fun (m_1 : (List Int)) => some m_1) l_1) fun J1 => bnd (fq vi ra0) fun (af : Bool) => (bif af then J1 true else bnd (fq ur ra0) fun (ay : Bool) => J1 ay)
def oD (t : aH) (ef : Int) (closed : List Int) : Option (List Int) :=
 bnd (j9 fuel ef [] closed t.aK t.Links) fun (af : (List Int)) => chk (decide (af.length < 4611686018427387904)) <| some (iM af)
def gY (t : aH) (aL : Int) : Option (List Int) :=
 bnd (gf t) fun (af : Bool) => bif !af then some [] else bnd (fR t aL) fun (ay : (List Int)) => some ay
def nw (t : aH) (a : Int) (b : Int) : Option Bool :=
 bnd (gX t a) fun (af : Bool) => (bif af then bnd (gX t b) fun (ay : Bool) => (bif ay then bnd (oD t a []) fun (aJ : (List Int)) => bnd (fq aJ b) fun (bk : Bool) => some bk else some false) else some false)
end Go.Proofs.YtpmifmdidfgpdaaGreat

/- Functions of the program, written gB. No condition but bU bB stand in each. -/
namespace Go.Proofs.YtpmifmdidfgpdaaGreat
open Go
set_option maxRecDepth 100000
set_option linter.all false
def kS (n : Int) : Option Bool :=
 some ((decide (n = (8:Int))) || ((decide (n = (16:Int))) || ((decide (n = (32:Int))) || (decide (n = (64:Int))))))
def fD (n : Int) (low : Int) (high : Int) : Option Bool :=
 some ((decide (low ≤ n)) && (decide (n ≤ high)))
def gI (l : List bz) : Option Bool :=
 bif decide ((8:Int) < (l.length:Int)) then some false else bO l 0 (fun (j1 : Int) (e1 : bz) (Z1 : Unit → Option _) (sg : Unit) => match sg with | () => jn (fun (v_1 : Bool) => bif v_1 then some false else Z1 ()) fun J1 => bnd (fD e1.cc (0:Int) (7:Int)) fun (af : Bool) => (bif !af then J1 true else bnd (fD e1.ID (1:Int) (256:Int)) fun (ay : Bool) => (bif !ay then J1 true else bnd (kS e1.Length) fun (aJ : Bool) => (bif !aJ then J1 true else (bif decide ((0:Int) < (j1 : Int)) then bnd (elO l (w64 ((j1 : Int) - (1:Int)))) fun (e_1 : bz) => J1 (decide (e1.cc ≤ e_1.cc)) else J1 false))))) (fun (sg : Unit) => match sg with | () => some true) ()
def gp (a : ak) : Option Bool :=
 jn (fun (v_1 : Bool) => bif v_1 then some false else bO a.Links 0 (fun (j1 : Int) (e1 : bu) (Z1 : Unit → Option _) (sg : Unit) => match sg with | () => jn (fun (v_2 : Bool) => bif v_2 then some false else Z1 ()) fun J2 => bnd (fD e1.bw (1:Int) (99:Int)) fun (aJ : Bool) => (bif !aJ then J2 true else (bif decide (e1.bw = a.aq) then J2 true else bnd (fD e1.lY (1:Int) (1000:Int)) fun (bk : Bool) => (bif !bk then J2 true else bnd (fD e1.bY (0:Int) (1000:Int)) fun (bF : Bool) => (bif !bF then J2 true else (bif decide ((0:Int) < (j1 : Int)) then bnd (elO a.Links (w64 ((j1 : Int) - (1:Int)))) fun (e_1 : bu) => J2 (decide (e1.bw ≤ e_1.bw)) else J2 false)))))) (fun (sg : Unit) => match sg with | () => bnd (gI a.Claims) fun (bR : Bool) => some bR) ()) fun J1 => bnd (fD a.aq (1:Int) (99:Int)) fun (af : Bool) => (bif !af then J1 true else bnd (fD a.Seq (1:Int) (1000000:Int)) fun (ay : Bool) => (bif !ay then J1 true else J1 (decide ((23:Int) < (a.Links.length:Int)))))
def mH (a : ak) (b : ak) : Option Bool :=
 bif ((!decide (a.aq = b.aq)) || ((!decide (a.Seq = b.Seq)) || ((!(a.aW == b.aW)) || ((!decide ((a.Links.length:Int) = (b.Links.length:Int))) || (!decide ((a.Claims.length:Int) = (b.Claims.length:Int))))))) then some false else bO a.Links 0 (fun (j1 : Int) (e1 : bu) (Z1 : Unit → Option _) (sg : Unit) => match sg with | () => bnd (elO b.Links (j1 : Int)) fun (e_1 : bu) => bif !(jN e1 e_1) then some false else Z1 ()) (fun (sg : Unit) => match sg with | () => bO a.Claims 0 (fun (j2 : Int) (e2 : bz) (Z2 : Unit → Option _) (sg : Unit) => match sg with | () => bnd (elO b.Claims (j2 : Int)) fun (e_2 : bz) => bif !(gN e2 e_2) then some false else Z2 ()) (fun (sg : Unit) => match sg with | () => some true) ()) ()
end Go.Proofs.YtpmifmdidfgpdaaGreat

/- Functions of the program, written gB. No condition but bU bB stand in each. -/
namespace Go.Proofs.YtpmifmdidfgpdaaGreat
open Go
set_option maxRecDepth 100000
set_option linter.all false
def gL (d : aD) : Option Int :=
 bif decide ((99:Int) < (d.az.length:Int)) then some (3:Int) else bO d.az 0 (fun (j1 : Int) (e1 : ak) (Z1 : Unit → Option _) (sg : Unit) => match sg with | () => bnd (gp e1) fun (af : Bool) => bif !af then some (1:Int) else Z1 ()) (fun (sg : Unit) => match sg with | () => bO (List.drop 1 d.az) 1 (fun (j2 : Int) (e2 : ak) (Z2 : Unit → Option _) (sg : Unit) => match sg with | () => bnd (elO d.az (w64 ((j2 : Int) - (1:Int)))) fun (e_1 : ak) => bif decide (e2.aq ≤ e_1.aq) then some (25:Int) else Z2 ()) (fun (sg : Unit) => match sg with | () => some (0:Int)) ()) ()
def mI (a : aD) (b : aD) : Option Bool :=
 bif !decide ((a.az.length:Int) = (b.az.length:Int)) then some false else bO a.az 0 (fun (j1 : Int) (e1 : ak) (Z1 : Unit → Option _) (sg : Unit) => match sg with | () => bnd (elO b.az (j1 : Int)) fun (e_1 : ak) => bnd (mH e1 e_1) fun (af : Bool) => bif !af then some false else Z1 ()) (fun (sg : Unit) => match sg with | () => some true) ()
def mJ (d : aD) (aL : Int) : Option (ak × Bool) :=
 bO d.az 0 (fun (j1 : Int) (e1 : ak) (Z1 : Unit → Option _) (sg : Unit) => match sg with | () => bif decide (e1.aq = aL) then some (e1, true) else Z1 ()) (fun (sg : Unit) => match sg with | () => some ((ak.mk (0:Int) (0:Int) false [] []), false)) ()
end Go.Proofs.YtpmifmdidfgpdaaGreat

/- Functions of the program, written gB. No condition but bU bB stand in each. -/
namespace Go.Proofs.YtpmifmdidfgpdaaGreat
open Go
set_option maxRecDepth 100000
set_option linter.all false
end Go.Proofs.YtpmifmdidfgpdaaGreat

/- Functions of the program, written gB. No condition but bU bB stand in each. -/
namespace Go.Proofs.YtpmifmdidfgpdaaGreat
open Go
set_option maxRecDepth 100000
set_option linter.all false
def iA (n : Int) : Option Bool :=
 some ((decide (n = (8:Int))) || ((decide (n = (16:Int))) || ((decide (n = (32:Int))) || (decide (n = (64:Int))))))
def iq (n : Int) (least : Int) (most : Int) : Option Bool :=
 some ((decide (least ≤ n)) && (decide (n ≤ most)))
def gx (a : ak) : Option Bool :=
 jn (fun (v_1 : Bool) => bif v_1 then some false else bO a.Links 0 (fun (j1 : Int) (e1 : bu) (Z1 : Unit → Option _) (sg : Unit) => match sg with | () => jn (fun (v_2 : Bool) => bif v_2 then some false else Z1 ()) fun J2 => bnd (iq e1.bw (1:Int) (99:Int)) fun (aJ : Bool) => (bif !aJ then J2 true else (bif decide (e1.bw = a.aq) then J2 true else bnd (iq e1.lY (1:Int) (1000:Int)) fun (bk : Bool) => (bif !bk then J2 true else bnd (iq e1.bY (0:Int) (1000:Int)) fun (bF : Bool) => (bif !bF then J2 true else (bif decide ((0:Int) < (j1 : Int)) then bnd (elO a.Links (w64 ((j1 : Int) - (1:Int)))) fun (e_1 : bu) => J2 (decide (e1.bw ≤ e_1.bw)) else J2 false)))))) (fun (sg : Unit) => match sg with | () => bO a.Claims 0 (fun (j2 : Int) (e2 : bz) (Z2 : Unit → Option _) (sg : Unit) => match sg with | () => jn (fun (v_3 : Bool) => bif v_3 then some false else Z2 ()) fun J3 => bnd (iq e2.cc (0:Int) (7:Int)) fun (bR : Bool) => (bif !bR then J3 true else bnd (iq e2.ID (1:Int) (256:Int)) fun (cG : Bool) => (bif !cG then J3 true else bnd (iA e2.Length) fun (cQ : Bool) => (bif !cQ then J3 true else (bif decide ((0:Int) < (j2 : Int)) then bnd (elO a.Claims (w64 ((j2 : Int) - (1:Int)))) fun (e_2 : bz) => J3 (decide (e2.cc ≤ e_2.cc)) else J3 false))))) (fun (sg : Unit) => match sg with | () => some true) ()) ()) fun J1 => bnd (iq a.aq (1:Int) (99:Int)) fun (af : Bool) => (bif !af then J1 true else bnd (iq a.Seq (1:Int) (1000000:Int)) fun (ay : Bool) => (bif !ay then J1 true else (bif decide ((23:Int) < (a.Links.length:Int)) then J1 true else J1 (decide ((8:Int) < (a.Claims.length:Int))))))
def gh (a : List bu) (b : List bu) : Option Bool :=
 bif !decide ((a.length:Int) = (b.length:Int)) then some false else bO a 0 (fun (j1 : Int) (e1 : bu) (Z1 : Unit → Option _) (sg : Unit) => match sg with | () => bnd (elO b (j1 : Int)) fun (e_1 : bu) => bif !(jN e1 e_1) then some false else Z1 ()) (fun (sg : Unit) => match sg with | () => some true) ()
def gi (a : List bz) (b : List bz) : Option Bool :=
 bif !decide ((a.length:Int) = (b.length:Int)) then some false else bO a 0 (fun (j1 : Int) (e1 : bz) (Z1 : Unit → Option _) (sg : Unit) => match sg with | () => bnd (elO b (j1 : Int)) fun (e_1 : bz) => bif !(gN e1 e_1) then some false else Z1 ()) (fun (sg : Unit) => match sg with | () => some true) ()
def di (s1 : List ak) (s2 : List ak) (eq : ak → ak → Option Bool) : Option Bool :=
 bif !decide ((s1.length:Int) = (s2.length:Int)) then some false else bO s1 0 (fun (j1 : Int) (e1 : ak) (Z1 : Unit → Option _) (sg : Unit) => match sg with | () => bnd (elO s2 (j1 : Int)) fun (e_1 : ak) => bnd (eq e1 e_1) fun (af : Bool) => bif !af then some false else Z1 ()) (fun (sg : Unit) => match sg with | () => some true) ()
def jP (a : ak) (b : ak) : Option Bool :=
 (bif decide (a.aq = b.aq) then (bif decide (a.Seq = b.Seq) then (bif (a.aW == b.aW) then bnd (gh a.Links b.Links) fun (af : Bool) => (bif af then bnd (gi a.Claims b.Claims) fun (ay : Bool) => some ay else some false) else some false) else some false) else some false)
def dM (sa0 : List aT) : Option (List aT) :=
 bnd (cI ([] : List aT) sa0) fun (l_1 : List aT) => some l_1
def jH  : Option (List aT) :=
 bnd (cI ([] : List aT) []) fun (l_1 : List aT) => some l_1
def cZ (s : List aT) : Option (List aT) := dM s
def dG (sa0 : List bz) : Option (List bz) :=
 bnd (cI ([] : List bz) sa0) fun (l_1 : List bz) => some l_1
def je  : Option (List bz) :=
 bnd (cI ([] : List bz) []) fun (l_1 : List bz) => some l_1
def cN (s : List bz) : Option (List bz) := dG s
def dH (sa0 : List bu) : Option (List bu) :=
 bnd (cI ([] : List bu) sa0) fun (l_1 : List bu) => some l_1
def jf  : Option (List bu) :=
 bnd (cI ([] : List bu) []) fun (l_1 : List bu) => some l_1
def dz (s : List bu) : Option (List bu) := dH s
def eN (a : ak) : Option ak :=
 bnd (dz a.Links) fun (af : (List bu)) => bnd (cN a.Claims) fun (ay : (List bz)) => some (ak.mk a.aq a.Seq a.aW af ay)
def lR (a : ak) : Option Bool :=
 bnd (gx a) fun (af : Bool) => some (!af)
def fe (d : aD) : Option Int :=
 bif decide ((99:Int) < (d.az.length:Int)) then some (3:Int) else bnd (cW d.az lR) fun (af : Bool) => bif af then some (1:Int) else bO d.az 0 (fun (j1 : Int) (e1 : ak) (Z1 : Unit → Option _) (sg : Unit) => match sg with | () => jn (fun (v_1 : Bool) => bif v_1 then some (25:Int) else Z1 ()) fun J1 => (bif decide ((0:Int) < (j1 : Int)) then bnd (elO d.az (w64 ((j1 : Int) - (1:Int)))) fun (e_1 : ak) => J1 (decide (e1.aq ≤ e_1.aq)) else J1 false)) (fun (sg : Unit) => match sg with | () => some (0:Int)) ()
def rz (a : aD) (b : aD) : Option Bool :=
 bnd (di a.az b.az jP) fun (af : Bool) => some af
def jI (d : aD) (aL : Int) : Option (ak × Bool) :=
 bO d.az 0 (fun (j1 : Int) (e1 : ak) (Z1 : Unit → Option _) (sg : Unit) => match sg with | () => bif decide (e1.aq = aL) then bnd (eN e1) fun (af : ak) => some (af, true) else Z1 ()) (fun (sg : Unit) => match sg with | () => some ((ak.mk (0:Int) (0:Int) false [] []), false)) ()
end Go.Proofs.YtpmifmdidfgpdaaGreat

/- Functions of the program, written gB. No condition but bU bB stand in each. -/
namespace Go.Proofs.YtpmifmdidfgpdaaGreat
open Go
set_option maxRecDepth 100000
set_option linter.all false
def jb (t : aQ) (aL : Int) (n : Int) : Option (ak × aQ) :=
 bnd (cS t ([(1:Int), (1:Int), (2:Int), (3:Int), (3:Int), (500000:Int), (1000000:Int)] : List Int)) fun (af : Int × aQ) => bnd (bV af.2 (3:Int)) fun (ay : Int × aQ) => fW ((7:Int) - (1:Int)).toNat (1:Int) (fun (j1 : Int) (Z1 : ((List bu) × (List Int) × Int) → Option _) (sg : (List bu) × (List Int) × Int) => match sg with | (m_1, m_2, m_3) => jn (fun (sg : (List Int) × Int × (List bu)) => match sg with | (m_4, m_5, m_6) => Z1 (m_6, m_4, m_5)) fun J1 => jn (fun (sg : Bool × (List Int) × Int) => match sg with | (v_1, m_7, m_8) => bif v_1 then bnd (dL (aQ.mk m_7 m_8) (1:Int) (3:Int)) fun (bk : Int × aQ) => bnd (bV bk.2 (3:Int)) fun (bF : Int × aQ) => bnd (cI m_1 ([(bu.mk (j1 : Int) bk.1 bF.1)] : List bu)) fun (l_1 : List bu) => J1 (bF.2.L, bF.2.At, l_1) else J1 (m_7, m_8, m_1)) fun J2 => (bif !decide ((j1 : Int) = aL) then bnd (bV (aQ.mk m_2 m_3) (2:Int)) fun (aJ : Int × aQ) => J2 (decide (aJ.1 = (0:Int)), aJ.2.L, aJ.2.At) else J2 (false, m_2, m_3))) (fun (j1 : Int) (sg : (List bu) × (List Int) × Int) => match sg with | (m_1, m_2, m_3) => fW ((2:Int) - (0:Int)).toNat (0:Int) (fun (j2 : Int) (Z2 : ((List bz) × (List Int) × Int) → Option _) (sg : (List bz) × (List Int) × Int) => match sg with | (m_9, gC, gv) => jn (fun (sg : (List Int) × Int × (List bz)) => match sg with | (kY, s9, ta) => Z2 (ta, kY, s9)) fun J3 => bnd (bV (aQ.mk gC gv) (2:Int)) fun (bR : Int × aQ) => bif decide (bR.1 = (0:Int)) then bnd (dL bR.2 (1:Int) (9:Int)) fun (cG : Int × aQ) => bnd (iZ cG.2) fun (cQ : Int × aQ) => bnd (cI m_9 ([(bz.mk (j2 : Int) cG.1 cQ.1)] : List bz)) fun (l_2 : List bz) => J3 (cQ.2.L, cQ.2.At, l_2) else J3 (bR.2.L, bR.2.At, m_9)) (fun (j2 : Int) (sg : (List bz) × (List Int) × Int) => match sg with | (m_9, gC, gv) => jn (fun (sg : (List Int) × Int × Int × Int × (List bu) × (List bz)) => match sg with | (uo, uq, ri, rj, qd, acQ) => some ((ak.mk ri rj (decide ((0:Int) < ay.1)) qd acQ), (aQ.mk uo uq))) fun J4 => jn (fun (sg : Bool × (List Int) × Int) => match sg with | (v_2, zC, zD) => bif v_2 then bnd (bV (aQ.mk zC zD) (6:Int)) fun (bN : Int × aQ) => bif decide (bN.1 = (0:Int)) then bnd (eO bN.2) fun (dI : Int × aQ) => J4 (dI.2.L, dI.2.At, dI.1, af.1, m_1, m_9) else bif decide (bN.1 = (1:Int)) then bnd (eO bN.2) fun (bZ : Int × aQ) => J4 (bZ.2.L, bZ.2.At, aL, bZ.1, m_1, m_9) else bif decide (bN.1 = (2:Int)) then bnd (cS bN.2 ([(0:Int), aL, (6:Int), (99:Int), (100:Int)] : List Int)) fun (fN : Int × aQ) => bnd (cS fN.2 ([(0:Int), (1:Int), (1000:Int), (1001:Int)] : List Int)) fun (jD : Int × aQ) => bnd (cS jD.2 ([(-1:Int), (0:Int), (1000:Int), (1001:Int)] : List Int)) fun (ji : Int × aQ) => bnd (cI m_1 ([(bu.mk fN.1 jD.1 ji.1)] : List bu)) fun (l_3 : List bu) => J4 (ji.2.L, ji.2.At, aL, af.1, l_3, m_9) else bif decide (bN.1 = (3:Int)) then bnd (cS bN.2 ([(-1:Int), (0:Int), (7:Int), (8:Int)] : List Int)) fun (kQ : Int × aQ) => bnd (cS kQ.2 ([(0:Int), (1:Int), (256:Int), (257:Int)] : List Int)) fun (pT : Int × aQ) => bnd (cS pT.2 ([(0:Int), (8:Int), (9:Int), (64:Int)] : List Int)) fun (pU : Int × aQ) => bnd (cI m_9 ([(bz.mk kQ.1 pT.1 pU.1)] : List bz)) fun (l_4 : List bz) => J4 (pU.2.L, pU.2.At, aL, af.1, m_1, l_4) else bif decide (bN.1 = (4:Int)) then fW ((54:Int) - (30:Int)).toNat (30:Int) (fun (j3 : Int) (Z3 : (List bu) → Option _) (wD : (List bu)) => bnd (cI wD ([(bu.mk (j3 : Int) (1:Int) (0:Int))] : List bu)) fun (l_5 : List bu) => Z3 l_5) (fun (j3 : Int) (wD : (List bu)) => J4 (bN.2.L, bN.2.At, aL, af.1, wD, m_9)) m_1 else bif decide ((0:Int) < (m_1.length:Int)) then bnd (eO bN.2) fun (lJ : Int × aQ) => bnd (elO m_1 (0:Int)) fun (e_1 : bu) => bnd (iV m_1 (0:Int) (bu.mk e_1.bw lJ.1 e_1.bY)) fun (l_6 : List bu) => J4 (lJ.2.L, lJ.2.At, aL, af.1, l_6, m_9) else J4 (bN.2.L, bN.2.At, aL, af.1, m_1, m_9) else J4 (zC, zD, aL, af.1, m_1, m_9)) fun J5 => (bif decide ((0:Int) < n) then bnd (fk (aQ.mk gC gv) n) fun (dA : Bool × aQ) => J5 (dA.1, dA.2.L, dA.2.At) else J5 (false, gC, gv))) ([], m_2, m_3)) ([], ay.2.L, ay.2.At)
def gZ (t : aQ) (n : Int) : Option (aD × aQ) :=
 fW ((7:Int) - (1:Int)).toNat (1:Int) (fun (j1 : Int) (Z1 : ((List ak) × (List Int) × Int) → Option _) (sg : (List ak) × (List Int) × Int) => match sg with | (m_1, m_2, m_3) => jn (fun (sg : (List Int) × Int × (List ak)) => match sg with | (m_4, m_5, m_6) => Z1 (m_6, m_4, m_5)) fun J1 => bnd (bV (aQ.mk m_2 m_3) (4:Int)) fun (af : Int × aQ) => bif decide ((0:Int) < af.1) then bnd (jb af.2 (j1 : Int) (0:Int)) fun (ay : ak × aQ) => bnd (cI m_1 ([ay.1] : List ak)) fun (l_1 : List ak) => J1 (ay.2.L, ay.2.At, l_1) else J1 (af.2.L, af.2.At, m_1)) (fun (j1 : Int) (sg : (List ak) × (List Int) × Int) => match sg with | (m_1, m_2, m_3) => jn (fun (sg : (List Int) × Int × (List ak)) => match sg with | (m_7, m_8, m_9) => some ((aD.mk m_9), (aQ.mk m_7 m_8))) fun J2 => jn (fun (sg : Bool × (List Int) × Int) => match sg with | (v_1, gC, gv) => bif v_1 then bnd (cS (aQ.mk gC gv) ([(1:Int), (6:Int), (7:Int)] : List Int)) fun (bk : Int × aQ) => bnd (jb bk.2 bk.1 (2:Int)) fun (bF : ak × aQ) => bnd (cI m_1 ([bF.1] : List ak)) fun (l_2 : List ak) => J2 (bF.2.L, bF.2.At, l_2) else J2 (gC, gv, m_1)) fun J3 => (bif decide ((0:Int) < n) then bnd (fk (aQ.mk m_2 m_3) n) fun (aJ : Bool × aQ) => J3 (aJ.1, aJ.2.L, aJ.2.At) else J3 (false, m_2, m_3))) ([], t.L, t.At)
end Go.Proofs.YtpmifmdidfgpdaaGreat

/- Functions of the program, written gB. No condition but bU bB stand in each. -/
namespace Go.Proofs.YtpmifmdidfgpdaaGreat
open Go
set_option maxRecDepth 100000
set_option linter.all false
def nM (n : Int) : Option Int :=
 some (w64 (Int.tdiv (w64 (n + (7:Int))) (8:Int)))
def lz (sa0 : aY) : Option Bool :=
 jn (fun (v_1 : Bool) => bif v_1 then some false else (bif decide (w64 ((w64 ((8:Int) * (sa0.Data.length:Int))) - sa0.Bits) = (0:Int)) then some true else bnd (elO sa0.Data (w64 ((sa0.Data.length:Int) - (1:Int)))) fun (e_1 : Int) => chk (decide (0 ≤ w64 ((8:Int) - (w64 ((w64 ((8:Int) * (sa0.Data.length:Int))) - sa0.Bits))))) <| some (decide (IntKind.wrap .u8 (e_1 * 2 ^ min (w64 ((8:Int) - (w64 ((w64 ((8:Int) * (sa0.Data.length:Int))) - sa0.Bits)))).toNat 8) = (0:Int))))) fun J1 => (bif decide (sa0.Bits < (0:Int)) then J1 true else (bif decide ((8192:Int) < sa0.Bits) then J1 true else bnd (nM sa0.Bits) fun (af : Int) => J1 (!decide ((sa0.Data.length:Int) = af))))
def pF (sa0 : aY) (i : Int) : Option Int :=
 bnd (elO sa0.Data (w64 (Int.tdiv i (8:Int)))) fun (e_1 : Int) => chk (decide (0 ≤ w64 ((7:Int) - (Int.tmod i (8:Int))))) <| some (IntKind.wrap .u64 (cU .and .u8 (Int.fdiv e_1 (2 ^ min (w64 ((7:Int) - (Int.tmod i (8:Int)))).toNat 8)) (1:Int)))
def nN (sa0 : aY) (value : Int) (n : Int) : Option aY :=
 whl (fun (Z1 : (Int × (List Int) × Int) → Option _) (sg : Int × (List Int) × Int) => match sg with | (n_1, m_1, m_2) => bif decide ((0:Int) < n_1) then jn (fun (sg : Int × (List Int)) => match sg with | (cD, m_3) => chk (decide (0 ≤ w64 (n_1 - (if cD < n_1 then cD else n_1)))) <| chk (decide (0 ≤ (if cD < n_1 then cD else n_1))) <| bnd (elO m_3 (w64 ((m_3.length:Int) - (1:Int)))) fun (e_1 : Int) => chk (decide (0 ≤ w64 (cD - (if cD < n_1 then cD else n_1)))) <| bnd (iV m_3 (w64 ((m_3.length:Int) - (1:Int))) (cU .or .u8 e_1 (IntKind.wrap .u8 (IntKind.wrap .u64 ((cU .and .u64 (Int.fdiv value (2 ^ min (w64 (n_1 - (if cD < n_1 then cD else n_1))).toNat 64)) (IntKind.wrap .u64 ((IntKind.wrap .u64 ((1:Int) * 2 ^ min (if cD < n_1 then cD else n_1).toNat 64)) - (1:Int)))) * 2 ^ min (w64 (cD - (if cD < n_1 then cD else n_1))).toNat 64))))) fun (l_2 : List Int) => Z1 (w64 (n_1 - (if cD < n_1 then cD else n_1)), l_2, w64 (m_2 + (if cD < n_1 then cD else n_1)))) fun J1 => bif decide (w64 ((w64 ((8:Int) * (m_1.length:Int))) - m_2) = (0:Int)) then bnd (cI m_1 ([(0:Int)] : List Int)) fun (l_1 : List Int) => J1 ((8:Int), l_1) else J1 (w64 ((w64 ((8:Int) * (m_1.length:Int))) - m_2), m_1) else some (aY.mk m_1 m_2)) (n, sa0.Data, sa0.Bits)
def pX (sa0 : aY) : Option aY :=
 bnd (cI [] sa0.Data) fun (l_1 : List Int) => some (aY.mk l_1 sa0.Bits)
def mK (sa0 : aY) (value : Int) (n : Int) : Option (aY × Int) :=
 bnd (lz sa0) fun (af : Bool) => bif !af then some ((aY.mk [] (0:Int)), (1:Int)) else jn (fun (v_1 : Bool) => bif v_1 then some ((aY.mk [] (0:Int)), (2:Int)) else bif decide ((8192:Int) < w64 (sa0.Bits + n)) then some ((aY.mk [] (0:Int)), (3:Int)) else bnd (pX sa0) fun (ay : aY) => bnd (nN ay value n) fun (aJ : aY) => some (aJ, (0:Int))) fun J1 => (bif decide (n < (0:Int)) then J1 true else (bif decide ((64:Int) < n) then J1 true else (bif decide (n < (64:Int)) then chk (decide (0 ≤ n)) <| J1 (!decide (Int.fdiv value (2 ^ min n.toNat 64) = (0:Int))) else J1 false)))
def lB (sa0 : aY) : Option (Int × Int) :=
 bnd (lz sa0) fun (af : Bool) => bif !af then some ((0:Int), (1:Int)) else chk (decide (sa0.Bits ≤ 9223372036854775807)) <| fW (sa0.Bits - (0:Int)).toNat (0:Int) (fun (j1 : Int) (Z1 : Int → Option _) (eA : Int) => jn (fun (oT : Int) => Z1 oT) fun J1 => bnd (pF sa0 (j1 : Int)) fun (ay : Int) => bif decide (Int.fdiv eA (2 ^ min (15:Int).toNat 64) = ay) then J1 (cU .and .u64 (IntKind.wrap .u64 (eA * 2 ^ min (1:Int).toNat 64)) (65535:Int)) else J1 (cU .xor .u64 (cU .and .u64 (IntKind.wrap .u64 (eA * 2 ^ min (1:Int).toNat 64)) (65535:Int)) (4129:Int))) (fun (j1 : Int) (eA : Int) => some (eA, (0:Int))) (65535:Int)
end Go.Proofs.YtpmifmdidfgpdaaGreat

/- Functions of the program, written gB. No condition but bU bB stand in each. -/
namespace Go.Proofs.YtpmifmdidfgpdaaGreat
open Go
set_option maxRecDepth 100000
set_option linter.all false
def kG (l : List Int) (i : Int) : Option Int :=
 bnd (elO l (w64 (Int.tdiv i (8:Int)))) fun (e_1 : Int) => chk (decide (0 ≤ IntKind.wrap .u64 (w64 ((7:Int) - (Int.tmod i (8:Int)))))) <| some (cU .and .u64 (IntKind.wrap .u64 (Int.fdiv e_1 (2 ^ min (IntKind.wrap .u64 (w64 ((7:Int) - (Int.tmod i (8:Int))))).toNat 8))) (1:Int))
def jQ (sa0 : aY) : Option Bool :=
 bif ((decide (sa0.Bits < (0:Int))) || ((decide ((8192:Int) < sa0.Bits)) || (!decide ((sa0.Data.length:Int) = w64 (Int.tdiv (w64 (sa0.Bits + (7:Int))) (8:Int)))))) then some false else whl (fun (Z1 : Int → Option _) (i_1 : Int) => bif decide (i_1 < w64 ((8:Int) * (sa0.Data.length:Int))) then bnd (kG sa0.Data i_1) fun (af : Int) => bif !decide (af = (0:Int)) then some false else Z1 (w64 (i_1 + (1:Int))) else some true) sa0.Bits
def nW (sa0 : aY) (b : Int) : Option aY :=
 bnd (cI [] sa0.Data) fun (l_1 : List Int) => jn (fun (l_2 : (List Int)) => jn (fun (l_4 : (List Int)) => some (aY.mk l_4 (w64 (sa0.Bits + (1:Int))))) fun J2 => bif decide (b = (1:Int)) then bnd (elO l_2 (w64 (Int.tdiv sa0.Bits (8:Int)))) fun (e_1 : Int) => chk (decide (0 ≤ IntKind.wrap .u64 (w64 ((7:Int) - (Int.tmod sa0.Bits (8:Int)))))) <| bnd (iV l_2 (w64 (Int.tdiv sa0.Bits (8:Int))) (cU .or .u8 e_1 (IntKind.wrap .u8 ((1:Int) * 2 ^ min (IntKind.wrap .u64 (w64 ((7:Int) - (Int.tmod sa0.Bits (8:Int))))).toNat 8)))) fun (l_5 : List Int) => J2 l_5 else J2 l_2) fun J1 => bif decide (Int.tmod sa0.Bits (8:Int) = (0:Int)) then bnd (cI l_1 ([(0:Int)] : List Int)) fun (l_3 : List Int) => J1 l_3 else J1 l_1
def mL (sa0 : aY) (value : Int) (n : Int) : Option (aY × Int) :=
 bnd (jQ sa0) fun (af : Bool) => bif !af then some ((aY.mk [] (0:Int)), (1:Int)) else jn (fun (v_1 : Bool) => bif v_1 then some ((aY.mk [] (0:Int)), (2:Int)) else bif decide ((8192:Int) < w64 (sa0.Bits + n)) then some ((aY.mk [] (0:Int)), (3:Int)) else whl (fun (Z1 : (Int × (List Int) × Int) → Option _) (sg : Int × (List Int) × Int) => match sg with | (i_1, m_1, m_2) => bif decide ((0:Int) ≤ i_1) then chk (decide (0 ≤ IntKind.wrap .u64 i_1)) <| bnd (nW (aY.mk m_1 m_2) (cU .and .u64 (Int.fdiv value (2 ^ min (IntKind.wrap .u64 i_1).toNat 64)) (1:Int))) fun (ay : aY) => Z1 (w64 (i_1 - (1:Int)), ay.Data, ay.Bits) else some ((aY.mk m_1 m_2), (0:Int))) (w64 (n - (1:Int)), sa0.Data, sa0.Bits)) fun J1 => (bif decide (n < (0:Int)) then J1 true else (bif decide ((64:Int) < n) then J1 true else (bif decide (n < (64:Int)) then chk (decide (0 ≤ IntKind.wrap .u64 n)) <| J1 (!decide (Int.fdiv value (2 ^ min (IntKind.wrap .u64 n).toNat 64) = (0:Int))) else J1 false)))
def nO (sa0 : aY) : Option (aY × Int) :=
 bnd (jQ sa0) fun (af : Bool) => bif !af then some ((aY.mk [] (0:Int)), (1:Int)) else whl (fun (Z1 : ((List Int) × Int) → Option _) (sg : (List Int) × Int) => match sg with | (m_1, m_2) => bif !decide (Int.tmod m_2 (8:Int) = (0:Int)) then bnd (nW (aY.mk m_1 m_2) (0:Int)) fun (ay : aY) => Z1 (ay.Data, ay.Bits) else some ((aY.mk m_1 m_2), (0:Int))) (sa0.Data, sa0.Bits)
def iI (sa0 : aY) : Option (Int × Int) :=
 bnd (jQ sa0) fun (af : Bool) => bif !af then some ((0:Int), (1:Int)) else chk (decide (sa0.Bits ≤ 9223372036854775807)) <| fW (sa0.Bits - (0:Int)).toNat (0:Int) (fun (j1 : Int) (Z1 : Int → Option _) (oF : Int) => jn (fun (aa4 : Int) => Z1 aa4) fun J1 => bnd (kG sa0.Data (j1 : Int)) fun (ay : Int) => bif !decide (Int.fdiv oF (2 ^ min (15:Int).toNat 64) = ay) then J1 (cU .xor .u64 (cU .and .u64 (IntKind.wrap .u64 (oF * 2 ^ min (1:Int).toNat 64)) (65535:Int)) (4129:Int)) else J1 (cU .and .u64 (IntKind.wrap .u64 (oF * 2 ^ min (1:Int).toNat 64)) (65535:Int))) (fun (j1 : Int) (oF : Int) => some (oF, (0:Int))) (65535:Int)
def oG (length : Int) : Option Int :=
 whl (fun (Z1 : (Int × Int) → Option _) (sg : Int × Int) => match sg with | (nD, n_1) => bif decide ((8:Int) < nD) then Z1 (w64 (Int.tdiv nD (2:Int)), w64 (n_1 + (1:Int))) else some n_1) (length, (0:Int))
end Go.Proofs.YtpmifmdidfgpdaaGreat

/- Functions of the program, written gB. No condition but bU bB stand in each. -/
namespace Go.Proofs.YtpmifmdidfgpdaaGreat
open Go
set_option maxRecDepth 100000
set_option linter.all false
def de (sa0 : aY) (n : Int) (width : Int) : Option aY :=
 bnd (mL sa0 (IntKind.wrap .u64 n) width) fun (af : aY × Int) => some af.1
def hU (a : ak) : Option ((List Int) × Int) :=
 bnd (gp a) fun (af : Bool) => bif !af then some ([], (1:Int)) else jn (fun (jx : Int) => bnd (de (aY.mk [] (0:Int)) a.aq (7:Int)) fun (ay : aY) => bnd (de ay a.Seq (20:Int)) fun (aJ : aY) => bnd (de aJ jx (1:Int)) fun (bk : aY) => bnd (de bk (a.Links.length:Int) (5:Int)) fun (bF : aY) => bO a.Links 0 (fun (j1 : Int) (e1 : bu) (Z1 : ((List Int) × Int) → Option _) (sg : (List Int) × Int) => match sg with | (m_1, m_2) => bnd (de (aY.mk m_1 m_2) e1.bw (7:Int)) fun (bR : aY) => bnd (de bR e1.lY (10:Int)) fun (cG : aY) => bnd (de cG e1.bY (10:Int)) fun (cQ : aY) => Z1 (cQ.Data, cQ.Bits)) (fun (sg : (List Int) × Int) => match sg with | (m_1, m_2) => bnd (de (aY.mk m_1 m_2) (a.Claims.length:Int) (4:Int)) fun (dA : aY) => bO a.Claims 0 (fun (j2 : Int) (e2 : bz) (Z2 : ((List Int) × Int) → Option _) (sg : (List Int) × Int) => match sg with | (m_3, m_4) => bnd (de (aY.mk m_3 m_4) e2.cc (3:Int)) fun (bN : aY) => bnd (de bN e2.ID (9:Int)) fun (dI : aY) => bnd (oG e2.Length) fun (bZ : Int) => bnd (de dI bZ (2:Int)) fun (fN : aY) => Z2 (fN.Data, fN.Bits)) (fun (sg : (List Int) × Int) => match sg with | (m_3, m_4) => bnd (iI (aY.mk m_3 m_4)) fun (jD : Int × Int) => bnd (de (aY.mk m_3 m_4) (w64 jD.1) (16:Int)) fun (ji : aY) => bnd (nO ji) fun (kQ : aY × Int) => some (kQ.1.Data, (0:Int))) (dA.Data, dA.Bits)) (bF.Data, bF.Bits)) fun J1 => bif a.aW then J1 (1:Int) else J1 (0:Int)
def nP (a : ak) (b : ak) : Option Bool :=
 jn (fun (v_1 : Bool) => bif v_1 then some false else bnd (hU a) fun (aJ : (List Int) × Int) => bnd (hU b) fun (bk : (List Int) × Int) => some ((decide (b.Seq < a.Seq)) || ((decide (a.Seq = b.Seq)) && (ug .gtr (iw aJ.1) (iw bk.1))))) fun J1 => bnd (gp a) fun (af : Bool) => (bif !af then J1 true else bnd (gp b) fun (ay : Bool) => (bif !ay then J1 true else J1 (!decide (a.aq = b.aq))))
end Go.Proofs.YtpmifmdidfgpdaaGreat

/- Functions of the program, written gB. No condition but bU bB stand in each. -/
namespace Go.Proofs.YtpmifmdidfgpdaaGreat
open Go
set_option maxRecDepth 100000
set_option linter.all false
def bT (w : bL) (n : Int) (bits : Int) : Option bL :=
 bnd (mK w.s_ (IntKind.wrap .u64 n) bits) fun (af : aY × Int) => some (bL.mk af.1)
def apU (a b : List Int) : Int := Go.Extern.BytealgCompare.cmp ⟨(a.map fun n => UInt8.ofNat n.toNat).toArray⟩ ⟨(b.map fun n => UInt8.ofNat n.toNat).toArray⟩
def rA (a b : List Int) : Option Int := some (apU a b)
def eB (a : ak) : Option ((List Int) × Int) :=
 bnd (gx a) fun (af : Bool) => bif !af then some ([], (1:Int)) else bnd (bT (bL.mk (aY.mk [] (0:Int))) a.aq (7:Int)) fun (ay : bL) => bnd (bT ay a.Seq (20:Int)) fun (aJ : bL) => jn (fun (jx : Int) => bnd (bT aJ jx (1:Int)) fun (bk : bL) => bnd (bT bk (a.Links.length:Int) (5:Int)) fun (bF : bL) => bO a.Links 0 (fun (j1 : Int) (e1 : bu) (Z1 : ((List Int) × Int) → Option _) (sg : (List Int) × Int) => match sg with | (m_1, m_2) => bnd (bT (bL.mk (aY.mk m_1 m_2)) e1.bw (7:Int)) fun (bR : bL) => bnd (bT bR e1.lY (10:Int)) fun (cG : bL) => bnd (bT cG e1.bY (10:Int)) fun (cQ : bL) => Z1 (cQ.s_.Data, cQ.s_.Bits)) (fun (sg : (List Int) × Int) => match sg with | (m_1, m_2) => bnd (bT (bL.mk (aY.mk m_1 m_2)) (a.Claims.length:Int) (4:Int)) fun (dA : bL) => bO a.Claims 0 (fun (j2 : Int) (e2 : bz) (Z2 : ((List Int) × Int) → Option _) (sg : (List Int) × Int) => match sg with | (m_3, m_4) => whl (fun (Z3 : Int → Option _) (jy : Int) => chk (decide (0 ≤ jy)) <| bif decide (IntKind.wrap .i64 ((8:Int) * 2 ^ min jy.toNat 64) < e2.Length) then Z3 (w64 (jy + (1:Int))) else bnd (bT (bL.mk (aY.mk m_3 m_4)) e2.cc (3:Int)) fun (bN : bL) => bnd (bT bN e2.ID (9:Int)) fun (dI : bL) => bnd (bT dI jy (2:Int)) fun (bZ : bL) => Z2 (bZ.s_.Data, bZ.s_.Bits)) (0:Int)) (fun (sg : (List Int) × Int) => match sg with | (m_3, m_4) => bnd (lB (aY.mk m_3 m_4)) fun (fN : Int × Int) => bnd (bT (bL.mk (aY.mk m_3 m_4)) (w64 fN.1) (16:Int)) fun (jD : bL) => some (jD.s_.Data, (0:Int))) (dA.s_.Data, dA.s_.Bits)) (bF.s_.Data, bF.s_.Bits)) fun J1 => bif a.aW then J1 (1:Int) else J1 (0:Int)
def mM (a : ak) (b : ak) : Option Bool :=
 bnd (eB a) fun (af : (List Int) × Int) => bnd (eB b) fun (ay : (List Int) × Int) => bif ((!decide (af.2 = (0:Int))) || ((!decide (ay.2 = (0:Int))) || (!decide (a.aq = b.aq)))) then some false else (bif decide (b.Seq < a.Seq) then some true else (bif decide (a.Seq = b.Seq) then bnd (rA af.1 ay.1) fun (aJ : Int) => some (decide ((0:Int) < aJ)) else some false))
end Go.Proofs.YtpmifmdidfgpdaaGreat

/- Functions of the program, written gB. No condition but bU bB stand in each. -/
namespace Go.Proofs.YtpmifmdidfgpdaaGreat
open Go
set_option maxRecDepth 100000
set_option linter.all false
def kM (xa0 : ak) (aL : Int) : Option Int :=
 bnd (ee xa0.aq aL) fun (af : Int) => some af
def jc (d : aD) : Option aD :=
 bO d.az 0 (fun (j1 : Int) (e1 : ak) (Z1 : (List ak) → Option _) (m_1 : (List ak)) => bnd (eN e1) fun (af : ak) => bnd (cI m_1 ([af] : List ak)) fun (l_1 : List ak) => Z1 l_1) (fun (m_1 : (List ak)) => some (aD.mk m_1)) []
def kH (d : aD) (a : ak) : Option (Bool × aD) :=
 bnd (cC d.az a.aq kM) fun (af : Int × Bool) => jn (fun (m_1 : (List ak)) => some (true, (aD.mk m_1))) fun J1 => bif !af.2 then bnd (eN a) fun (ay : ak) => bnd (aaQ d.az af.1 ay) fun (l_1 : List ak) => J1 l_1 else bnd (elO d.az af.1) fun (e_1 : ak) => bnd (mM a e_1) fun (aJ : Bool) => bif aJ then bnd (eN a) fun (bk : ak) => bnd (iV d.az af.1 bk) fun (l_2 : List ak) => J1 l_2 else some (false, d)
def mN (d : aD) (a : ak) : Option (aD × Bool) :=
 bnd (jc d) fun (af : aD) => jn (fun (v_1 : Bool) => bif v_1 then some (af, false) else bnd (kH af a) fun (bk : Bool × aD) => some (bk.2, bk.1)) fun J1 => bnd (fe d) fun (ay : Int) => (bif !decide (ay = (0:Int)) then J1 true else bnd (gx a) fun (aJ : Bool) => J1 (!aJ))
def kN (a : aD) (b : aD) : Option (aD × Int) :=
 jn (fun (v_1 : Bool) => bif v_1 then some ((aD.mk []), (1:Int)) else bnd (jc a) fun (aJ : aD) => bO b.az 0 (fun (j1 : Int) (e1 : ak) (Z1 : (List ak) → Option _) (m_1 : (List ak)) => bnd (kH (aD.mk m_1) e1) fun (bk : Bool × aD) => Z1 bk.2.az) (fun (m_1 : (List ak)) => some ((aD.mk m_1), (0:Int))) aJ.az) fun J1 => bnd (fe a) fun (af : Int) => (bif !decide (af = (0:Int)) then J1 true else bnd (fe b) fun (ay : Int) => J1 (!decide (ay = (0:Int))))
end Go.Proofs.YtpmifmdidfgpdaaGreat

/- Functions of the program, written gB. No condition but bU bB stand in each. -/
namespace Go.Proofs.YtpmifmdidfgpdaaGreat
open Go
set_option maxRecDepth 100000
set_option linter.all false
def oH (d : aD) (a : ak) : Option aD :=
 bO d.az 0 (fun (j1 : Int) (e1 : ak) (Z1 : (Bool × (List ak)) → Option _) (sg : Bool × (List ak)) => match sg with | (lS, m_1) => jn (fun (sg : Bool × (List ak)) => match sg with | (vJ, m_2) => Z1 (vJ, m_2)) fun J1 => jn (fun (sg : Bool × (List ak)) => match sg with | (sM, m_3) => bif !decide (e1.aq = a.aq) then bnd (cI m_3 ([e1] : List ak)) fun (l_2 : List ak) => J1 (sM, l_2) else J1 (sM, m_3)) fun J2 => bif ((!lS) && (decide (a.aq ≤ e1.aq))) then bnd (cI m_1 ([a] : List ak)) fun (l_1 : List ak) => J2 (true, l_1) else J2 (lS, m_1)) (fun (sg : Bool × (List ak)) => match sg with | (lS, m_1) => jn (fun (m_4 : (List ak)) => some (aD.mk m_4)) fun J3 => bif !lS then bnd (cI m_1 ([a] : List ak)) fun (l_3 : List ak) => J3 l_3 else J3 m_1) (false, [])
def nX (d : aD) (a : ak) : Option (aD × Bool) :=
 jn (fun (v_1 : Bool) => bif v_1 then some (d, false) else bnd (mJ d a.aq) fun (aJ : ak × Bool) => jn (fun (v_2 : Bool) => bif v_2 then some (d, false) else bnd (oH d a) fun (bF : aD) => some (bF, true)) fun J2 => (bif aJ.2 then bnd (nP a aJ.1) fun (bk : Bool) => J2 (!bk) else J2 false)) fun J1 => bnd (gL d) fun (af : Int) => (bif !decide (af = (0:Int)) then J1 true else bnd (gp a) fun (ay : Bool) => J1 (!ay))
def nQ (a : aD) (b : aD) : Option (aD × Int) :=
 jn (fun (v_1 : Bool) => bif v_1 then some ((aD.mk []), (1:Int)) else bO b.az 0 (fun (j1 : Int) (e1 : ak) (Z1 : (List ak) → Option _) (m_1 : (List ak)) => bnd (nX (aD.mk m_1) e1) fun (aJ : aD × Bool) => Z1 aJ.1.az) (fun (m_1 : (List ak)) => some ((aD.mk m_1), (0:Int))) a.az) fun J1 => bnd (gL a) fun (af : Int) => (bif !decide (af = (0:Int)) then J1 true else bnd (gL b) fun (ay : Int) => J1 (!decide (ay = (0:Int))))
end Go.Proofs.YtpmifmdidfgpdaaGreat

/- Functions of the program, written gB. No condition but bU bB stand in each. -/
namespace Go.Proofs.YtpmifmdidfgpdaaGreat
open Go
set_option maxRecDepth 100000
set_option linter.all false
def rD (t : aH) (aL : Int) (seq : Int) (cB : List bz) : Option (ak × Int) :=
 bnd (iG t) fun (af : Int) => bif !decide (af = (0:Int)) then some ((ak.mk (0:Int) (0:Int) false [] []), (1:Int)) else bnd (pE t aL) fun (ay : Bool) => bif !ay then some ((ak.mk (0:Int) (0:Int) false [] []), (4:Int)) else bnd (iz t aL) fun (aJ : Bool) => bnd (oB t aL) fun (bk : (List Int)) => bO bk 0 (fun (j1 : Int) (e1 : Int) (Z1 : (List bu) → Option _) (m_1 : (List bu)) => bnd (jO t aL e1) fun (bF : Int × Bool) => bO t.Links 0 (fun (j2 : Int) (e2 : aT) (Z2 : Int → Option _) (m_2 : Int) => jn (fun (m_3 : Int) => Z2 m_3) fun J1 => bif ((decide (e2.A = (if e1 < aL then e1 else aL))) && (decide (e2.B = (if e1 > aL then e1 else aL)))) then J1 e2.bY else J1 m_2) (fun (m_2 : Int) => bnd (cI m_1 ([(bu.mk e1 bF.1 m_2)] : List bu)) fun (l_1 : List bu) => Z1 l_1) (0:Int)) (fun (m_1 : (List bu)) => bnd (gp (ak.mk aL seq aJ m_1 cB)) fun (bR : Bool) => bif !bR then some ((ak.mk (0:Int) (0:Int) false [] []), (2:Int)) else some ((ak.mk aL seq aJ m_1 cB), (0:Int))) []
end Go.Proofs.YtpmifmdidfgpdaaGreat

/- Functions of the program, written gB. No condition but bU bB stand in each. -/
namespace Go.Proofs.YtpmifmdidfgpdaaGreat
open Go
set_option maxRecDepth 100000
set_option linter.all false
def pG (t : aH) (aL : Int) (seq : Int) (cB : List bz) : Option (ak × Int) :=
 bnd (gd t) fun (af : Int) => bif !decide (af = (0:Int)) then some ((ak.mk (0:Int) (0:Int) false [] []), (1:Int)) else bnd (gX t aL) fun (ay : Bool) => bif !ay then some ((ak.mk (0:Int) (0:Int) false [] []), (4:Int)) else bnd (jv t aL) fun (aJ : Bool) => bnd (cI [] cB) fun (l_1 : List bz) => bO t.Links 0 (fun (j1 : Int) (e1 : aT) (Z1 : (List bu) → Option _) (m_1 : (List bu)) => jn (fun (m_2 : (List bu)) => Z1 m_2) fun J1 => bif decide (aL = e1.A) then bnd (cI m_1 ([(bu.mk e1.B e1.jh e1.bY)] : List bu)) fun (l_2 : List bu) => J1 l_2 else bif decide (aL = e1.B) then bnd (cI m_1 ([(bu.mk e1.A e1.iN e1.bY)] : List bu)) fun (l_3 : List bu) => J1 l_3 else J1 m_1) (fun (m_1 : (List bu)) => bnd (gx (ak.mk aL seq aJ m_1 l_1)) fun (bk : Bool) => bif !bk then some ((ak.mk (0:Int) (0:Int) false [] []), (2:Int)) else some ((ak.mk aL seq aJ m_1 l_1), (0:Int))) []
end Go.Proofs.YtpmifmdidfgpdaaGreat

/- Functions of the program, written gB. No condition but bU bB stand in each. -/
namespace Go.Proofs.YtpmifmdidfgpdaaGreat
open Go
set_option maxRecDepth 100000
set_option linter.all false
def dO (f : aB) : Option aH :=
 bnd (cZ f.Links) fun (af : (List aT)) => bO f.aG 0 (fun (j1 : Int) (e1 : aZ) (Z1 : (List aX) → Option _) (m_1 : (List aX)) => bnd (cI m_1 ([(aX.mk e1.aq e1.aW)] : List aX)) fun (l_1 : List aX) => Z1 l_1) (fun (m_1 : (List aX)) => some (aH.mk m_1 af)) []
def mo (n : aZ) (c_0 : Int) : Option Bool :=
 some (decide (n.aq = c_0))
def fO (f : aB) (aL : Int) : Option (Int × Bool) :=
 bnd (ei f.aG (fun (y0 : aZ) => mo y0 aL)) fun (af : Int) => some (af, decide ((0:Int) ≤ af))
def dX (f : aB) : Option Int :=
 jn (fun (v_1 : Bool) => bif v_1 then some (1:Int) else bO f.aG 0 (fun (j1 : Int) (e1 : aZ) (Z1 : Unit → Option _) (sg : Unit) => match sg with | () => jn (fun (v_2 : Bool) => bif v_2 then some (1:Int) else Z1 ()) fun J2 => (bif decide (e1.Seq < (0:Int)) then J2 true else (bif decide ((1000000:Int) < e1.Seq) then J2 true else bnd (gx (ak.mk e1.aq (1:Int) false [] e1.Claims)) fun (aJ : Bool) => (bif !aJ then J2 true else bnd (fe e1.Database) fun (bk : Int) => J2 (!decide (bk = (0:Int))))))) (fun (sg : Unit) => match sg with | () => bO f.aj 0 (fun (j2 : Int) (e2 : br) (Z2 : Unit → Option _) (sg : Unit) => match sg with | () => bnd (fO f e2.gM) fun (bF : Int × Bool) => bnd (fO f e2.To) fun (bR : Int × Bool) => jn (fun (v_3 : Bool) => bif v_3 then some (1:Int) else Z2 ()) fun J3 => (bif !bF.2 then J3 true else (bif !bR.2 then J3 true else (bif decide (e2.gM = e2.To) then J3 true else bnd (fe e2.Database) fun (cG : Int) => J3 (!decide (cG = (0:Int))))))) (fun (sg : Unit) => match sg with | () => some (0:Int)) ()) ()) fun J1 => bnd (dO f) fun (af : aH) => bnd (gd af) fun (ay : Int) => (bif !decide (ay = (0:Int)) then J1 true else J1 (decide ((400:Int) < (f.aj.length:Int))))
def jd (f : aB) (n : aZ) : Option (ak × Bool) :=
 bif decide (n.Seq = (0:Int)) then some ((ak.mk (0:Int) (0:Int) false [] []), false) else bnd (dO f) fun (af : aH) => bnd (pG af n.aq n.Seq n.Claims) fun (ay : ak × Int) => some (ay.1, decide (ay.2 = (0:Int)))
def dD (d : aD) : Option aD :=
 bO d.az 0 (fun (j1 : Int) (e1 : ak) (Z1 : (List ak) → Option _) (m_1 : (List ak)) => bnd (dz e1.Links) fun (af : (List bu)) => bnd (cN e1.Claims) fun (ay : (List bz)) => bnd (cI m_1 ([(ak.mk e1.aq e1.Seq e1.aW af ay)] : List ak)) fun (l_1 : List ak) => Z1 l_1) (fun (m_1 : (List ak)) => some (aD.mk m_1)) []
def ff (f : aB) : Option aB :=
 bnd (cZ f.Links) fun (af : (List aT)) => bO f.aG 0 (fun (j1 : Int) (e1 : aZ) (Z1 : (List aZ) → Option _) (m_1 : (List aZ)) => bnd (cN e1.Claims) fun (ay : (List bz)) => bnd (dD e1.Database) fun (aJ : aD) => bnd (cI m_1 ([(aZ.mk e1.aq e1.Seq e1.aW ay aJ)] : List aZ)) fun (l_1 : List aZ) => Z1 l_1) (fun (m_1 : (List aZ)) => bO f.aj 0 (fun (j2 : Int) (e2 : br) (Z2 : (List br) → Option _) (m_2 : (List br)) => bnd (dD e2.Database) fun (bk : aD) => bnd (cI m_2 ([(br.mk e2.gM e2.To bk)] : List br)) fun (l_2 : List br) => Z2 l_2) (fun (m_2 : (List br)) => some (aB.mk af m_1 m_2)) []) []
def oI (f : aB) : Option Bool :=
 jn (fun (v_1 : Bool) => bif v_1 then some false else bnd (dO f) fun (ay : aH) => bO f.aG 0 (fun (j1 : Int) (e1 : aZ) (Z1 : Unit → Option _) (sg : Unit) => match sg with | () => bnd (jd f e1) fun (aJ : ak × Bool) => bnd (jI e1.Database e1.aq) fun (bk : ak × Bool) => jn (fun (v_2 : Bool) => bif v_2 then some false else bnd (kX f.aG (0:Int) (j1 : Int)) fun (l_1 : List aZ) => bO l_1 0 (fun (j2 : Int) (e2 : aZ) (Z2 : Unit → Option _) (sg : Unit) => match sg with | () => jn (fun (v_3 : Bool) => bif v_3 then some false else Z2 ()) fun J3 => bnd (nw ay e2.aq e1.aq) fun (bR : Bool) => (bif bR then bnd (rz e2.Database e1.Database) fun (cG : Bool) => J3 (!cG) else J3 false)) (fun (sg : Unit) => match sg with | () => Z1 ()) ()) fun J2 => (bif !aJ.2 then J2 true else (bif !bk.2 then J2 true else bnd (jP aJ.1 bk.1) fun (bF : Bool) => J2 (!bF)))) (fun (sg : Unit) => match sg with | () => some true) ()) fun J1 => bnd (dX f) fun (af : Int) => (bif !decide (af = (0:Int)) then J1 true else J1 (decide ((0:Int) < (f.aj.length:Int))))
end Go.Proofs.YtpmifmdidfgpdaaGreat

/- Functions of the program, written gB. No condition but bU bB stand in each. -/
namespace Go.Proofs.YtpmifmdidfgpdaaGreat
open Go
set_option maxRecDepth 100000
set_option linter.all false
def dB (m : aO) (i : Int) : Option aO :=
 bnd (elO m.f_.aG i) fun (e_1 : aZ) => bnd (jd m.f_ e_1) fun (af : ak × Bool) => bif af.2 then bnd (mN e_1.Database af.1) fun (ay : aD × Bool) => bnd (iV m.f_.aG i (aZ.mk e_1.aq e_1.Seq e_1.aW e_1.Claims ay.1)) fun (l_1 : List aZ) => some (aO.mk (aB.mk m.f_.Links l_1 m.f_.aj)) else some m
def eU (m : aO) (i : Int) : Option aO :=
 bnd (elO m.f_.aG i) fun (e_1 : aZ) => bnd (dO m.f_) fun (af : aH) => bnd (gY af e_1.aq) fun (ay : (List Int)) => bO ay 0 (fun (j1 : Int) (e1 : Int) (Z1 : (List br) → Option _) (m_1 : (List br)) => bnd (dD e_1.Database) fun (aJ : aD) => bnd (cI m_1 ([(br.mk e_1.aq e1 aJ)] : List br)) fun (l_1 : List br) => Z1 l_1) (fun (m_1 : (List br)) => some (aO.mk (aB.mk m.f_.Links m.f_.aG m_1))) m.f_.aj
def ep (m : aO) (k : Int) : Option aO :=
 bnd (elO m.f_.aj k) fun (e_1 : br) => bnd (wj m.f_.aj k (w64 (k + (1:Int)))) fun (l_1 : List br) => bnd (dO (aB.mk m.f_.Links m.f_.aG l_1)) fun (af : aH) => bnd (jG af e_1.gM e_1.To) fun (ay : Int × Bool) => bif !ay.2 then some (aO.mk (aB.mk m.f_.Links m.f_.aG l_1)) else bnd (fO (aB.mk m.f_.Links m.f_.aG l_1) e_1.To) fun (aJ : Int × Bool) => bnd (elO m.f_.aG aJ.1) fun (e_2 : aZ) => bnd (kN e_2.Database e_1.Database) fun (bk : aD × Int) => bnd (iV m.f_.aG aJ.1 (aZ.mk e_2.aq e_2.Seq e_2.aW e_2.Claims bk.1)) fun (l_2 : List aZ) => bnd (elO l_2 aJ.1) fun (e_3 : aZ) => bnd (jI e_3.Database e_3.aq) fun (bF : ak × Bool) => bnd (jd (aB.mk m.f_.Links l_2 l_1) e_3) fun (bR : ak × Bool) => jn (fun (v_1 : Bool) => bif v_1 then bnd (iV l_2 aJ.1 (aZ.mk e_3.aq (w64 (bF.1.Seq + (1:Int))) e_3.aW e_3.Claims e_3.Database)) fun (l_3 : List aZ) => bnd (dB (aO.mk (aB.mk m.f_.Links l_3 l_1)) aJ.1) fun (cQ : aO) => some cQ else some (aO.mk (aB.mk m.f_.Links l_2 l_1))) fun J1 => (bif bF.2 then (bif !bR.2 then J1 (decide (bF.1.Seq < (1000000:Int))) else bnd (jP bF.1 bR.1) fun (cG : Bool) => (bif !cG then J1 (decide (bF.1.Seq < (1000000:Int))) else J1 false)) else J1 false)
def iB (m : aO) : Option aO :=
 whl (fun (Z1 : ((List aT) × (List aZ) × (List br)) → Option _) (sg : (List aT) × (List aZ) × (List br)) => match sg with | (m_1, m_2, m_3) => bif decide ((0:Int) < (m_3.length:Int)) then bnd (ep (aO.mk (aB.mk m_1 m_2 m_3)) (0:Int)) fun (af : aO) => Z1 (af.f_.Links, af.f_.aG, af.f_.aj) else some (aO.mk (aB.mk m_1 m_2 m_3))) (m.f_.Links, m.f_.aG, m.f_.aj)
def jR (m : aO) : Option aO :=
 bO m.f_.aG 0 (fun (j1 : Int) (e1 : aZ) (Z1 : ((List aT) × (List aZ) × (List br)) → Option _) (sg : (List aT) × (List aZ) × (List br)) => match sg with | (m_1, m_2, m_3) => bnd (eU (aO.mk (aB.mk m_1 m_2 m_3)) (j1 : Int)) fun (af : aO) => Z1 (af.f_.Links, af.f_.aG, af.f_.aj)) (fun (sg : (List aT) × (List aZ) × (List br)) => match sg with | (m_1, m_2, m_3) => some (aO.mk (aB.mk m_1 m_2 m_3))) (m.f_.Links, m.f_.aG, m.f_.aj)
end Go.Proofs.YtpmifmdidfgpdaaGreat

/- Functions of the program, written gB. No condition but bU bB stand in each. -/
namespace Go.Proofs.YtpmifmdidfgpdaaGreat
open Go
set_option maxRecDepth 100000
set_option linter.all false
def gy (f : aB) (aL : Int) : Option (aO × Int × Int) :=
 bnd (dX f) fun (af : Int) => bif !decide (af = (0:Int)) then none else bnd (fO f aL) fun (ay : Int × Bool) => bif !ay.2 then none else bnd (ff f) fun (aJ : aB) => some ((aO.mk aJ), ay.1, (0:Int))
def kT (f : aB) (aL : Int) : Option (Int × Int) :=
 bnd (dX f) fun (af : Int) => bif !decide (af = (0:Int)) then some ((0:Int), (1:Int)) else bnd (fO f aL) fun (ay : Int × Bool) => bif !ay.2 then some ((0:Int), (4:Int)) else bnd (ff f) fun (aJ : aB) => none
def dg (f : aB) (k : Int) : Option (aO × Int) :=
 bnd (dX f) fun (af : Int) => bif !decide (af = (0:Int)) then none else bif ((decide (k < (0:Int))) || (decide ((f.aj.length:Int) ≤ k))) then none else bnd (ff f) fun (ay : aB) => some ((aO.mk ay), (0:Int))
def dN (f : aB) (k : Int) : Option Int :=
 bnd (dX f) fun (af : Int) => bif !decide (af = (0:Int)) then some (1:Int) else bif ((decide (k < (0:Int))) || (decide ((f.aj.length:Int) ≤ k))) then some (4:Int) else bnd (ff f) fun (ay : aB) => none
def oJ (oa0 : gb) (c_0 : aH) : Option Bool :=
 bnd (gX c_0 oa0.aq) fun (af : Bool) => some (!af)
def qf (t : aH) (cB : List gb) : Option (aB × Int) :=
 bnd (gd t) fun (af : Int) => bif !decide (af = (0:Int)) then some ((aB.mk [] [] []), (1:Int)) else bnd (eP cB (fun (y0 : gb) => oJ y0 t)) fun (ay : Bool) => bif ay then some ((aB.mk [] [] []), (4:Int)) else bO cB 0 (fun (j1 : Int) (e1 : gb) (Z1 : Unit → Option _) (sg : Unit) => match sg with | () => jn (fun (v_1 : Bool) => bif v_1 then some ((aB.mk [] [] []), (25:Int)) else Z1 ()) fun J1 => (bif decide ((0:Int) < (j1 : Int)) then bnd (elO cB (w64 ((j1 : Int) - (1:Int)))) fun (e_1 : gb) => bnd (ee e_1.aq e1.aq) fun (aJ : Int) => bnd (ee e_1.Claim.cc e1.Claim.cc) fun (bk : Int) => bnd (mE ([aJ, bk] : List Int)) fun (bF : Int) => J1 (decide ((0:Int) ≤ bF)) else J1 false)) (fun (sg : Unit) => match sg with | () => bnd (cZ t.Links) fun (bR : (List aT)) => bO t.aK 0 (fun (j2 : Int) (e2 : aX) (Z2 : (List aZ) → Option _) (m_1 : (List aZ)) => bO cB 0 (fun (j3 : Int) (e3 : gb) (Z3 : (List bz) → Option _) (m_2 : (List bz)) => jn (fun (m_3 : (List bz)) => Z3 m_3) fun J2 => bif decide (e3.aq = e2.ID) then bnd (cI m_2 ([e3.Claim] : List bz)) fun (l_1 : List bz) => J2 l_1 else J2 m_2) (fun (m_2 : (List bz)) => bnd (cI m_1 ([(aZ.mk e2.ID (0:Int) e2.aW m_2 (aD.mk []))] : List aZ)) fun (l_2 : List aZ) => Z2 l_2) []) (fun (m_1 : (List aZ)) => bnd (dX (aB.mk bR m_1 [])) fun (cG : Int) => bif !decide (cG = (0:Int)) then some ((aB.mk [] [] []), (1:Int)) else some ((aB.mk bR m_1 []), (0:Int))) []) ()
def kg (f : aB) (aL : Int) : Option (aB × Int) :=
 els (gy f aL) (fun af => bif !decide (af.2.2 = (0:Int)) then some ((aB.mk [] [] []), af.2.2) else bnd (elO af.1.f_.aG af.2.1) fun (e_1 : aZ) => bif decide (e_1.Seq = (1000000:Int)) then some ((aB.mk [] [] []), (7:Int)) else bnd (iV af.1.f_.aG af.2.1 (aZ.mk e_1.aq (w64 (e_1.Seq + (1:Int))) e_1.aW e_1.Claims e_1.Database)) fun (l_1 : List aZ) => bnd (dB (aO.mk (aB.mk af.1.f_.Links l_1 af.1.f_.aj)) af.2.1) fun (ay : aO) => some (ay.f_, (0:Int))) <| bnd (kT f aL) fun aJ => bif !decide (aJ.2 = (0:Int)) then some ((aB.mk [] [] []), aJ.2) else none
def lT (f : aB) (aL : Int) : Option (aB × Int) :=
 els (gy f aL) (fun af => bif !decide (af.2.2 = (0:Int)) then some ((aB.mk [] [] []), af.2.2) else bnd (eU af.1 af.2.1) fun (ay : aO) => bif decide ((400:Int) < (ay.f_.aj.length:Int)) then some ((aB.mk [] [] []), (3:Int)) else some (ay.f_, (0:Int))) <| bnd (kT f aL) fun aJ => bif !decide (aJ.2 = (0:Int)) then some ((aB.mk [] [] []), aJ.2) else none
def jB (f : aB) (k : Int) : Option (aB × Int) :=
 els (dg f k) (fun af => bif !decide (af.2 = (0:Int)) then some ((aB.mk [] [] []), af.2) else bnd (ep af.1 k) fun (ay : aO) => some (ay.f_, (0:Int))) <| bnd (dN f k) fun aJ => bif !decide (aJ = (0:Int)) then some ((aB.mk [] [] []), aJ) else none
def lU (f : aB) (k : Int) : Option (aB × Int) :=
 els (dg f k) (fun af => bif !decide (af.2 = (0:Int)) then some ((aB.mk [] [] []), af.2) else bnd (wj af.1.f_.aj k (w64 (k + (1:Int)))) fun (l_1 : List br) => some ((aB.mk af.1.f_.Links af.1.f_.aG l_1), (0:Int))) <| bnd (dN f k) fun ay => bif !decide (ay = (0:Int)) then some ((aB.mk [] [] []), ay) else none
def fG (f : aB) (k : Int) : Option (aB × Int) :=
 els (dg f k) (fun af => bif !decide (af.2 = (0:Int)) then some ((aB.mk [] [] []), af.2) else bif decide ((f.aj.length:Int) = (400:Int)) then some ((aB.mk [] [] []), (3:Int)) else bnd (elO f.aj k) fun (e_1 : br) => bnd (dD e_1.Database) fun (ay : aD) => bnd (cI af.1.f_.aj ([(br.mk e_1.gM e_1.To ay)] : List br)) fun (l_1 : List br) => some ((aB.mk af.1.f_.Links af.1.f_.aG l_1), (0:Int))) <| bnd (dN f k) fun aJ => bif !decide (aJ = (0:Int)) then some ((aB.mk [] [] []), aJ) else bif decide ((f.aj.length:Int) = (400:Int)) then some ((aB.mk [] [] []), (3:Int)) else bnd (elO f.aj k) fun (e_2 : br) => bnd (dD e_2.Database) fun (bk : aD) => none
def qg (f : aB) : Option (aB × Int) :=
 bnd (dX f) fun (af : Int) => bif !decide (af = (0:Int)) then some ((aB.mk [] [] []), (1:Int)) else bnd (ff f) fun (ay : aB) => bnd (iB (aO.mk ay)) fun (aJ : aO) => bnd (jR aJ) fun (bk : aO) => bnd (iB bk) fun (bF : aO) => some (bF.f_, (0:Int))
end Go.Proofs.YtpmifmdidfgpdaaGreat

/- Functions of the program, written gB. No condition but bU bB stand in each. -/
namespace Go.Proofs.YtpmifmdidfgpdaaGreat
open Go
set_option maxRecDepth 100000
set_option linter.all false
def fh (f : aB) : Option aH :=
 bO f.aG 0 (fun (j1 : Int) (e1 : aZ) (Z1 : (List aX) → Option _) (m_1 : (List aX)) => bnd (cI m_1 ([(aX.mk e1.aq e1.aW)] : List aX)) fun (l_1 : List aX) => Z1 l_1) (fun (m_1 : (List aX)) => some (aH.mk m_1 f.Links)) []
def jS (f : aB) (aL : Int) : Option Int :=
 bO f.aG 0 (fun (j1 : Int) (e1 : aZ) (Z1 : Unit → Option _) (sg : Unit) => match sg with | () => bif decide (e1.aq = aL) then some (j1 : Int) else Z1 ()) (fun (sg : Unit) => match sg with | () => some (-1:Int)) ()
def jT (f : aB) : Option Bool :=
 jn (fun (v_1 : Bool) => bif v_1 then some false else bO f.aG 0 (fun (j1 : Int) (e1 : aZ) (Z1 : Unit → Option _) (sg : Unit) => match sg with | () => jn (fun (v_2 : Bool) => bif v_2 then some false else Z1 ()) fun J2 => (bif decide (e1.Seq < (0:Int)) then J2 true else (bif decide ((1000000:Int) < e1.Seq) then J2 true else bnd (gI e1.Claims) fun (aJ : Bool) => (bif !aJ then J2 true else bnd (gL e1.Database) fun (bk : Int) => J2 (!decide (bk = (0:Int))))))) (fun (sg : Unit) => match sg with | () => bO f.aj 0 (fun (j2 : Int) (e2 : br) (Z2 : Unit → Option _) (sg : Unit) => match sg with | () => jn (fun (v_3 : Bool) => bif v_3 then some false else Z2 ()) fun J3 => bnd (jS f e2.gM) fun (bF : Int) => (bif decide (bF < (0:Int)) then J3 true else bnd (jS f e2.To) fun (bR : Int) => (bif decide (bR < (0:Int)) then J3 true else (bif decide (e2.gM = e2.To) then J3 true else bnd (gL e2.Database) fun (cG : Int) => J3 (!decide (cG = (0:Int))))))) (fun (sg : Unit) => match sg with | () => some true) ()) ()) fun J1 => bnd (fh f) fun (af : aH) => bnd (iG af) fun (ay : Int) => (bif !decide (ay = (0:Int)) then J1 true else J1 (decide ((400:Int) < (f.aj.length:Int))))
def nY (f : aB) (i : Int) (seq : Int) : Option (ak × Bool) :=
 bnd (fh f) fun (af : aH) => bnd (elO f.aG i) fun (e_1 : aZ) => bnd (rD af e_1.aq seq e_1.Claims) fun (ay : ak × Int) => some (ay.1, decide (ay.2 = (0:Int)))
def mO (f : aB) (i : Int) (n : aZ) : Option aB :=
 bnd (cI [] f.aG) fun (l_1 : List aZ) => bnd (elO l_1 i) fun (e_1 : aZ) => bnd (iV l_1 i n) fun (l_2 : List aZ) => some (aB.mk f.Links l_2 f.aj)
def jU (f : aB) (i : Int) (seq : Int) : Option aB :=
 bnd (elO f.aG i) fun (e_1 : aZ) => bnd (nY f i seq) fun (af : ak × Bool) => bnd (nX e_1.Database af.1) fun (ay : aD × Bool) => bnd (mO f i (aZ.mk e_1.aq seq e_1.aW e_1.Claims ay.1)) fun (aJ : aB) => some aJ
def jJ (f : aB) (k : Int) : Option aB :=
 bnd (kX f.aj (0:Int) k) fun (l_1 : List br) => bnd (cI [] l_1) fun (l_2 : List br) => bnd (kX f.aj (w64 (k + (1:Int))) (f.aj.length:Int)) fun (l_3 : List br) => bnd (cI l_2 l_3) fun (l_4 : List br) => some (aB.mk f.Links f.aG l_4)
def mP (f : aB) (m : br) : Option aB :=
 bnd (fh f) fun (af : aH) => bnd (jO af m.gM m.To) fun (ay : Int × Bool) => bif !ay.2 then some f else bnd (jS f m.To) fun (aJ : Int) => bnd (elO f.aG aJ) fun (e_1 : aZ) => bnd (nQ e_1.Database m.Database) fun (bk : aD × Int) => bnd (mO f aJ (aZ.mk e_1.aq e_1.Seq e_1.aW e_1.Claims bk.1)) fun (bF : aB) => bnd (mJ bk.1 m.To) fun (bR : ak × Bool) => bif !bR.2 then some bF else bnd (nY bF aJ e_1.Seq) fun (cG : ak × Bool) => jn (fun (v_1 : Bool) => bif v_1 then some bF else bnd (jU bF aJ (w64 (bR.1.Seq + (1:Int)))) fun (dA : aB) => some dA) fun J1 => (bif decide ((0:Int) < e_1.Seq) then (bif cG.2 then bnd (mH bR.1 cG.1) fun (cQ : Bool) => (bif cQ then J1 true else J1 (decide ((1000000:Int) < w64 (bR.1.Seq + (1:Int))))) else J1 (decide ((1000000:Int) < w64 (bR.1.Seq + (1:Int))))) else J1 (decide ((1000000:Int) < w64 (bR.1.Seq + (1:Int)))))
def lV (f : aB) (k : Int) : Option (aB × Int) :=
 bnd (jT f) fun (af : Bool) => bif !af then some ((aB.mk [] [] []), (1:Int)) else bif ((decide (k < (0:Int))) || (decide ((f.aj.length:Int) ≤ k))) then some ((aB.mk [] [] []), (4:Int)) else bnd (elO f.aj k) fun (e_1 : br) => bnd (jJ f k) fun (ay : aB) => bnd (mP ay e_1) fun (aJ : aB) => some (aJ, (0:Int))
def oK (f : aB) (k : Int) : Option (aB × Int) :=
 bnd (jT f) fun (af : Bool) => bif !af then some ((aB.mk [] [] []), (1:Int)) else bif ((decide (k < (0:Int))) || (decide ((f.aj.length:Int) ≤ k))) then some ((aB.mk [] [] []), (4:Int)) else bnd (jJ f k) fun (ay : aB) => some (ay, (0:Int))
def mQ (f : aB) (k : Int) : Option (aB × Int) :=
 bnd (jT f) fun (af : Bool) => bif !af then some ((aB.mk [] [] []), (1:Int)) else bif ((decide (k < (0:Int))) || (decide ((f.aj.length:Int) ≤ k))) then some ((aB.mk [] [] []), (4:Int)) else bif decide ((f.aj.length:Int) = (400:Int)) then some ((aB.mk [] [] []), (3:Int)) else bnd (cI [] f.aj) fun (l_1 : List br) => bnd (elO f.aj k) fun (e_1 : br) => bnd (cI l_1 ([e_1] : List br)) fun (l_2 : List br) => some ((aB.mk f.Links f.aG l_2), (0:Int))
def kP (a : aB) (b : aB) : Option Bool :=
 jn (fun (v_1 : Bool) => bif v_1 then some false else bO a.aG 0 (fun (j1 : Int) (e1 : aZ) (Z1 : Unit → Option _) (sg : Unit) => match sg with | () => bnd (elO b.aG (j1 : Int)) fun (e_1 : aZ) => jn (fun (v_2 : Bool) => bif v_2 then some false else bO e1.Claims 0 (fun (j2 : Int) (e2 : bz) (Z2 : Unit → Option _) (sg : Unit) => match sg with | () => bnd (elO e_1.Claims (j2 : Int)) fun (e_2 : bz) => bif !(gN e2 e_2) then some false else Z2 ()) (fun (sg : Unit) => match sg with | () => Z1 ()) ()) fun J2 => (bif !decide (e1.Seq = e_1.Seq) then J2 true else bnd (mI e1.Database e_1.Database) fun (bk : Bool) => (bif !bk then J2 true else J2 (!decide ((e1.Claims.length:Int) = (e_1.Claims.length:Int)))))) (fun (sg : Unit) => match sg with | () => bO a.aj 0 (fun (j3 : Int) (e3 : br) (Z3 : Unit → Option _) (sg : Unit) => match sg with | () => bnd (elO b.aj (j3 : Int)) fun (e_3 : br) => jn (fun (v_3 : Bool) => bif v_3 then some false else Z3 ()) fun J3 => (bif !decide (e3.gM = e_3.gM) then J3 true else (bif !decide (e3.To = e_3.To) then J3 true else bnd (mI e3.Database e_3.Database) fun (bF : Bool) => J3 (!bF)))) (fun (sg : Unit) => match sg with | () => some true) ()) ()) fun J1 => bnd (fh a) fun (af : aH) => bnd (fh b) fun (ay : aH) => bnd (oC af ay) fun (aJ : Bool) => (bif !aJ then J1 true else J1 (!decide ((a.aj.length:Int) = (b.aj.length:Int))))
end Go.Proofs.YtpmifmdidfgpdaaGreat

/- Functions of the program, written gB. No condition but bU bB stand in each. -/
namespace Go.Proofs.YtpmifmdidfgpdaaGreat
open Go
set_option maxRecDepth 100000
set_option linter.all false
def lC (t : aQ) (most : Int) : Option (aD × aQ) :=
 bnd (bV t (3:Int)) fun (af : Int × aQ) => bif decide (af.1 = (0:Int)) then some ((aD.mk []), af.2) else bnd (gZ af.2 (0:Int)) fun (ay : aD × aQ) => whl (fun (Z1 : (Int × (List ak)) → Option _) (sg : Int × (List ak)) => match sg with | (i_1, m_1) => bif decide (i_1 < (m_1.length:Int)) then bnd (elO m_1 i_1) fun (e_1 : ak) => bnd (iV m_1 i_1 (ak.mk e_1.aq (if most < e_1.Seq then most else e_1.Seq) e_1.aW e_1.Links e_1.Claims)) fun (l_1 : List ak) => Z1 (w64 (i_1 + (1:Int)), l_1) else some ((aD.mk m_1), ay.2)) ((0:Int), ay.1.az)
def jK (t : aQ) (mR : Int) (most : Int) : Option (aB × aQ) :=
 bnd (jr t mR (0:Int)) fun (af : aH × aQ) => bO af.1.aK 0 (fun (j1 : Int) (e1 : aX) (Z1 : ((List aZ) × (List Int) × Int) → Option _) (sg : (List aZ) × (List Int) × Int) => match sg with | (m_1, m_2, m_3) => bnd (cS (aQ.mk m_2 m_3) ([(0:Int), (1:Int), (1:Int), (2:Int), (400000:Int)] : List Int)) fun (ay : Int × aQ) => bnd (bV ay.2 (5:Int)) fun (aJ : Int × aQ) => bnd (lC aJ.2 most) fun (bk : aD × aQ) => fW ((2:Int) - (0:Int)).toNat (0:Int) (fun (j2 : Int) (Z2 : ((List bz) × (List Int) × Int) → Option _) (sg : (List bz) × (List Int) × Int) => match sg with | (m_4, m_5, m_6) => jn (fun (sg : (List Int) × Int × (List bz)) => match sg with | (m_7, m_8, m_9) => Z2 (m_9, m_7, m_8)) fun J1 => bnd (bV (aQ.mk m_5 m_6) (2:Int)) fun (bF : Int × aQ) => bif decide (bF.1 = (0:Int)) then bnd (dL bF.2 (1:Int) (6:Int)) fun (bR : Int × aQ) => bnd (iZ bR.2) fun (cG : Int × aQ) => bnd (cI m_4 ([(bz.mk (j2 : Int) bR.1 cG.1)] : List bz)) fun (l_1 : List bz) => J1 (cG.2.L, cG.2.At, l_1) else J1 (bF.2.L, bF.2.At, m_4)) (fun (j2 : Int) (sg : (List bz) × (List Int) × Int) => match sg with | (m_4, m_5, m_6) => bnd (cI m_1 ([(aZ.mk e1.ID (if ay.1 < most then ay.1 else most) (decide ((0:Int) < aJ.1)) m_4 bk.1)] : List aZ)) fun (l_2 : List aZ) => Z1 (l_2, m_5, m_6)) ([], bk.2.L, bk.2.At)) (fun (sg : (List aZ) × (List Int) × Int) => match sg with | (m_1, m_2, m_3) => bnd (bV (aQ.mk m_2 m_3) (4:Int)) fun (cQ : Int × aQ) => whl (fun (Z3 : (Int × (List br) × (List Int) × Int) → Option _) (sg : Int × (List br) × (List Int) × Int) => match sg with | (i_1, gC, gv, kY) => bif ((decide ((0:Int) < i_1)) && (decide ((1:Int) < (af.1.aK.length:Int)))) then bnd (bV (aQ.mk gv kY) (af.1.aK.length:Int)) fun (dA : Int × aQ) => bnd (dL dA.2 (1:Int) (w64 ((af.1.aK.length:Int) - (1:Int)))) fun (bN : Int × aQ) => bnd (rW (w64 (dA.1 + bN.1)) (af.1.aK.length:Int)) fun (dI : Int) => bnd (elO af.1.aK dA.1) fun (e_1 : aX) => bnd (elO af.1.aK dI) fun (e_2 : aX) => bnd (lC bN.2 most) fun (bZ : aD × aQ) => bnd (cI gC ([(br.mk e_1.ID e_2.ID bZ.1)] : List br)) fun (l_3 : List br) => Z3 (w64 (i_1 - (1:Int)), l_3, bZ.2.L, bZ.2.At) else some ((aB.mk af.1.Links m_1 gC), (aQ.mk gv kY))) (cQ.1, [], cQ.2.L, cQ.2.At)) ([], af.2.L, af.2.At)
end Go.Proofs.YtpmifmdidfgpdaaGreat
