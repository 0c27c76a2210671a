/- Several texts in one. No condition but those that stand in each. -/
import Derived.Test.YtpmifmdidfgpdaaGreatT
/- Functions of the program, written gI. No condition but bT bF stand in each. -/
namespace Go.Proofs.YtpmifmdidfgpdaaGreat
open Go
set_option maxRecDepth 100000
set_option linter.all false
def oh (l : List Int) (n : Int) : Option Bool :=
 bM l 0 (fun (j1 : Int) (e1 : Int) (Z1 : Unit → Option _) (sg : Unit) => match sg with | () => bif decide (e1 = n) then some true else Z1 ()) (fun (sg : Unit) => match sg with | () => some false) ()
def mR (l : List Int) (n : Int) : Option (List Int) :=
 whl (fun (Z1 : Int → Option _) (fI : Int) => jn (fun (v_1 : Bool) => bif v_1 then Z1 (w64 (fI + (1:Int))) else jn (fun (v_2 : Bool) => bif v_2 then some l else bnd (mO l (0:Int) fI) fun (l_1 : List Int) => bnd (cM [] l_1) fun (l_2 : List Int) => bnd (cM l_2 ([n] : List Int)) fun (l_3 : List Int) => bnd (mO l fI (l.length:Int)) fun (l_4 : List Int) => bnd (cM l_3 l_4) fun (l_5 : List Int) => some l_5) fun J2 => (bif decide (fI < (l.length:Int)) then bnd (elO l fI) fun (e_2 : Int) => J2 (decide (e_2 = n)) else J2 false)) fun J1 => (bif decide (fI < (l.length:Int)) then bnd (elO l fI) fun (e_1 : Int) => J1 (decide (e_1 < n)) else J1 false)) (0:Int)
end Go.Proofs.YtpmifmdidfgpdaaGreat

/- Functions of the program, written gI. No condition but bT bF stand in each. -/
namespace Go.Proofs.YtpmifmdidfgpdaaGreat
open Go
set_option maxRecDepth 100000
set_option linter.all false
def oM (n : Int) : Option Bool :=
 some ((decide ((1:Int) ≤ n)) && (decide (n ≤ (1000:Int))))
def mh (t : aB) (ra1 : Int) : Option Bool :=
 bM t.aK 0 (fun (j1 : Int) (e1 : aZ) (Z1 : Unit → Option _) (sg : Unit) => match sg with | () => bif decide (e1.ID = ra1) then some true else Z1 ()) (fun (sg : Unit) => match sg with | () => some false) ()
def lI (t : aB) (ez : Int) (jG : Int) : Option (Int × Bool) :=
 bM t.Links 0 (fun (j1 : Int) (e1 : aX) (Z1 : Unit → Option _) (sg : Unit) => match sg with | () => bif ((decide (e1.A = ez)) && (decide (e1.B = jG))) then some (e1.jx, true) else bif ((decide (e1.B = ez)) && (decide (e1.A = jG))) then some (e1.jc, true) else Z1 ()) (fun (sg : Unit) => match sg with | () => some ((0:Int), false)) ()
def iS (t : aB) : Option Int :=
 bif ((decide ((24:Int) < (t.aK.length:Int))) || (decide ((60:Int) < (t.Links.length:Int)))) then some (3:Int) else bM t.aK 0 (fun (j1 : Int) (e1 : aZ) (Z1 : Unit → Option _) (sg : Unit) => match sg with | () => bif ((decide (e1.ID < (1:Int))) || (decide ((99:Int) < e1.ID))) then some (2:Int) else Z1 ()) (fun (sg : Unit) => match sg with | () => bM (List.drop 1 t.aK) 1 (fun (j2 : Int) (e2 : aZ) (Z2 : Unit → Option _) (sg : Unit) => match sg with | () => bnd (elO t.aK (w64 ((j2 : Int) - (1:Int)))) fun (e_1 : aZ) => bif decide (e2.ID ≤ e_1.ID) then some (25:Int) else Z2 ()) (fun (sg : Unit) => match sg with | () => bM t.Links 0 (fun (j3 : Int) (e3 : aX) (Z3 : Unit → Option _) (sg : Unit) => match sg with | () => jn (fun (v_1 : Bool) => bif v_1 then some (2:Int) else Z3 ()) fun J1 => bnd (oM e3.jx) fun (af : Bool) => (bif !af then J1 true else bnd (oM e3.jc) fun (aq : Bool) => (bif !aq then J1 true else (bif decide (e3.bY < (0:Int)) then J1 true else J1 (decide ((1000:Int) < e3.bY)))))) (fun (sg : Unit) => match sg with | () => bM t.Links 0 (fun (j4 : Int) (e4 : aX) (Z4 : Unit → Option _) (sg : Unit) => match sg with | () => jn (fun (v_2 : Bool) => bif v_2 then some (4:Int) else Z4 ()) fun J2 => bnd (mh t e4.A) fun (aI : Bool) => (bif !aI then J2 true else bnd (mh t e4.B) fun (bk : Bool) => J2 (!bk))) (fun (sg : Unit) => match sg with | () => bM t.Links 0 (fun (j5 : Int) (e5 : aX) (Z5 : Unit → Option _) (sg : Unit) => match sg with | () => bif decide (e5.B ≤ e5.A) then some (8:Int) else Z5 ()) (fun (sg : Unit) => match sg with | () => bM (List.drop 1 t.Links) 1 (fun (j6 : Int) (e6 : aX) (Z6 : Unit → Option _) (sg : Unit) => match sg with | () => bnd (elO t.Links (w64 ((j6 : Int) - (1:Int)))) fun (e_2 : aX) => bif ((decide (e6.A < e_2.A)) || ((decide (e_2.A = e6.A)) && (decide (e6.B ≤ e_2.B)))) then some (25:Int) else Z6 ()) (fun (sg : Unit) => match sg with | () => some (0:Int)) ()) ()) ()) ()) ()) ()
def r9 (xa0 : Int) (n : Int) : Option Int :=
 bif decide (n < (1:Int)) then some (0:Int) else chk (decide (n ≠ 0)) <| jn (fun (af : Int) => some af) fun J1 => bif decide (Int.tmod xa0 n < (0:Int)) then J1 (w64 ((Int.tmod xa0 n) + n)) else J1 (Int.tmod xa0 n)
def nV (t : aP) : Option (Int × aP) :=
 bif decide ((t.L.length:Int) ≤ t.At) then some ((0:Int), t) else bnd (elO t.L (w64 ((w64 (t.At + (1:Int))) - (1:Int)))) fun (e_1 : Int) => some (e_1, (aP.mk t.L (w64 (t.At + (1:Int)))))
def bV (t : aP) (n : Int) : Option (Int × aP) :=
 bnd (nV t) fun (af : Int × aP) => bnd (r9 af.1 n) fun (aq : Int) => some (aq, af.2)
def dG (t : aP) (low : Int) (high : Int) : Option (Int × aP) :=
 bnd (bV t (w64 ((w64 (high - low)) + (1:Int)))) fun (af : Int × aP) => some (w64 (low + af.1), af.2)
end Go.Proofs.YtpmifmdidfgpdaaGreat

/- Functions of the program, written gI. No condition but bT bF stand in each. -/
namespace Go.Proofs.YtpmifmdidfgpdaaGreat
open Go
set_option maxRecDepth 100000
set_option linter.all false
def mj (t : aB) (ra1 : Int) : Option Bool :=
 bnd (iS t) fun (af : Int) => (bif decide (af = (0:Int)) then bnd (mh t ra1) fun (aq : Bool) => some aq else some false)
def iK (t : aB) (ra1 : Int) : Option Bool :=
 bnd (iS t) fun (af : Int) => bif !decide (af = (0:Int)) then some false else bM t.aK 0 (fun (j1 : Int) (e1 : aZ) (Z1 : Unit → Option _) (sg : Unit) => match sg with | () => bif decide (e1.ID = ra1) then some e1.bh else Z1 ()) (fun (sg : Unit) => match sg with | () => some false) ()
def kU (t : aB) (ra1 : Int) : Option (List Int) :=
 bM t.aK 0 (fun (j1 : Int) (e1 : aZ) (Z1 : (List Int) → Option _) (cu : (List Int)) => jn (fun (gR : (List Int)) => Z1 gR) fun J1 => bnd (lI t ra1 e1.ID) fun (af : Int × Bool) => bif af.2 then bnd (cM cu ([e1.ID] : List Int)) fun (l_1 : List Int) => J1 l_1 else J1 cu) (fun (cu : (List Int)) => some cu) []
def mS (t : aB) (ra1 : Int) : Option (List Int) :=
 whl (fun (Z1 : ((List Int) × Int) → Option _) (sg : (List Int) × Int) => match sg with | (cu, i_1) => bif decide (i_1 < (cu.length:Int)) then bnd (elO cu i_1) fun (e_1 : Int) => bnd (kU t e_1) fun (af : (List Int)) => bM af 0 (fun (j2 : Int) (e2 : Int) (Z2 : (List Int) → Option _) (gR : (List Int)) => jn (fun (yR : (List Int)) => Z2 yR) fun J1 => bnd (oh gR e2) fun (aq : Bool) => bif !aq then bnd (cM gR ([e2] : List Int)) fun (l_1 : List Int) => J1 l_1 else J1 gR) (fun (gR : (List Int)) => Z1 (gR, w64 (i_1 + (1:Int)))) cu else bM cu 0 (fun (j3 : Int) (e3 : Int) (Z3 : (List Int) → Option _) (l_2 : (List Int)) => bnd (mR l_2 e3) fun (aI : (List Int)) => Z3 aI) (fun (l_2 : (List Int)) => some l_2) []) (([ra1] : List Int), (0:Int))
def gK (t : aB) (a : Int) (b : Int) : Option Bool :=
 bnd (mj t a) fun (af : Bool) => (bif af then bnd (mj t b) fun (aq : Bool) => (bif aq then bnd (mS t a) fun (aI : (List Int)) => bnd (oh aI b) fun (bk : Bool) => some bk else some false) else some false)
def mT (a : aB) (b : aB) : Option Bool :=
 bif ((!decide ((a.aK.length:Int) = (b.aK.length:Int))) || (!decide ((a.Links.length:Int) = (b.Links.length:Int)))) then some false else bM a.aK 0 (fun (j1 : Int) (e1 : aZ) (Z1 : Unit → Option _) (sg : Unit) => match sg with | () => bnd (elO b.aK (j1 : Int)) fun (e_1 : aZ) => bif !(sK e1 e_1) then some false else Z1 ()) (fun (sg : Unit) => match sg with | () => bM a.Links 0 (fun (j2 : Int) (e2 : aX) (Z2 : Unit → Option _) (sg : Unit) => match sg with | () => bnd (elO b.Links (j2 : Int)) fun (e_2 : aX) => bif !(vH e2 e_2) then some false else Z2 ()) (fun (sg : Unit) => match sg with | () => some true) ()) ()
end Go.Proofs.YtpmifmdidfgpdaaGreat

/- Functions of the program, written gI. No condition but bT bF stand in each. -/
namespace Go.Proofs.YtpmifmdidfgpdaaGreat
open Go
set_option maxRecDepth 100000
set_option linter.all false
def cV (t : aP) (l : List Int) : Option (Int × aP) :=
 bnd (bV t (l.length:Int)) fun (af : Int × aP) => bnd (elO l af.1) fun (e_1 : Int) => some (e_1, af.2)
def fF (t : aP) (n : Int) : Option (Bool × aP) :=
 bnd (bV t n) fun (af : Int × aP) => some (decide (af.1 = w64 (n - (1:Int))), af.2)
def eW (t : aP) : Option (Int × aP) :=
 bnd (cV t ([(-1:Int), (0:Int), (1:Int), (7:Int), (8:Int), (23:Int), (24:Int), (31:Int), (32:Int), (63:Int), (64:Int), (99:Int), (100:Int), (255:Int), (256:Int), (257:Int), (1000:Int), (1001:Int), (1023:Int), (1024:Int), (1000000:Int), (1000001:Int), (1099511627776:Int), (9223372036854775807:Int), (-9223372036854775808:Int)] : List Int)) fun (af : Int × aP) => some (af.1, af.2)
def jl (t : aP) : Option (Int × aP) :=
 bnd (cV t ([(8:Int), (8:Int), (16:Int), (32:Int), (64:Int)] : List Int)) fun (af : Int × aP) => some (af.1, af.2)
def ry (l : List aX) : Option (List aX) :=
 bM l 0 (fun (j1 : Int) (e1 : aX) (Z1 : (List aX) → Option _) (cu : (List aX)) => whl (fun (Z2 : Int → Option _) (fI : Int) => jn (fun (v_1 : Bool) => bif v_1 then Z2 (w64 (fI + (1:Int))) else bnd (mO cu (0:Int) fI) fun (l_1 : List aX) => bnd (cM [] l_1) fun (l_2 : List aX) => bnd (cM l_2 ([e1] : List aX)) fun (l_3 : List aX) => bnd (mO cu fI (cu.length:Int)) fun (l_4 : List aX) => bnd (cM l_3 l_4) fun (l_5 : List aX) => Z1 l_5) fun J1 => (bif decide (fI < (cu.length:Int)) then bnd (elO cu fI) fun (e_1 : aX) => (bif decide (e_1.A < e1.A) then J1 true else (bif decide (e_1.A = e1.A) then J1 (decide (e_1.B < e1.B)) else J1 false)) else J1 false)) (0:Int)) (fun (cu : (List aX)) => some cu) []
def si (l : List Int) : Option aP :=
 jn (fun (l_1 : (List Int)) => some (aP.mk l_1 (0:Int))) fun J1 => bif decide ((600:Int) < (l.length:Int)) then bnd (mO l (0:Int) (600:Int)) fun (l_2 : List Int) => J1 l_2 else J1 l
def jH (t : aP) (most : Int) (n : Int) : Option (aB × aP) :=
 bnd (dG t (1:Int) most) fun (af : Int × aP) => chk (decide ((af.1 + 1) ≤ 9223372036854775807)) <| eU ((af.1 + 1) - (1:Int)).toNat (1:Int) (fun (j1 : Int) (Z1 : (List aZ) → Option _) (m_1 : (List aZ)) => bnd (cM m_1 ([(aZ.mk (j1 : Int) true)] : List aZ)) fun (l_1 : List aZ) => Z1 l_1) (fun (j1 : Int) (m_1 : (List aZ)) => bnd (cV af.2 ([(1:Int), (2:Int), (2:Int), (5:Int)] : List Int)) fun (aq : Int × aP) => chk (decide ((af.1 + 1) ≤ 9223372036854775807)) <| eU ((af.1 + 1) - (2:Int)).toNat (2:Int) (fun (j2 : Int) (Z2 : ((List aX) × (List Int) × Int) → Option _) (sg : (List aX) × (List Int) × Int) => match sg with | (m_2, m_3, m_4) => bnd (dG (aP.mk m_3 m_4) (1:Int) (w64 ((j2 : Int) - (1:Int)))) fun (aI : Int × aP) => bnd (fF aI.2 (9:Int)) fun (bk : Bool × aP) => chk (decide ((j2 : Int) ≤ 9223372036854775807)) <| eU ((j2 : Int) - (1:Int)).toNat (1:Int) (fun (j3 : Int) (Z3 : ((List aX) × (List Int) × Int) → Option _) (sg : (List aX) × (List Int) × Int) => match sg with | (m_5, m_6, m_7) => jn (fun (sg : (List Int) × Int × (List aX)) => match sg with | (m_8, m_9, gL) => Z3 (gL, m_8, m_9)) fun J1 => jn (fun (sg : Bool × (List Int) × Int) => match sg with | (v_1, gB, lz) => bif v_1 then bnd (dG (aP.mk gB lz) (1:Int) aq.1) fun (ct : Int × aP) => bnd (dG ct.2 (1:Int) aq.1) fun (dw : Int × aP) => bnd (bV dw.2 (4:Int)) fun (dK : Int × aP) => bnd (cM m_5 ([(aX.mk (j3 : Int) (j2 : Int) ct.1 dw.1 dK.1)] : List aX)) fun (l_2 : List aX) => J1 (dK.2.L, dK.2.At, l_2) else J1 (gB, lz, m_5)) fun J2 => (bif decide ((j3 : Int) = aI.1) then (bif !bk.1 then J2 (true, m_6, m_7) else bnd (fF (aP.mk m_6 m_7) (3:Int)) fun (bG : Bool × aP) => J2 (bG.1, bG.2.L, bG.2.At)) else bnd (fF (aP.mk m_6 m_7) (3:Int)) fun (b9 : Bool × aP) => J2 (b9.1, b9.2.L, b9.2.At))) (fun (j3 : Int) (sg : (List aX) × (List Int) × Int) => match sg with | (m_5, m_6, m_7) => Z2 (m_5, m_6, m_7)) (m_2, bk.2.L, bk.2.At)) (fun (j2 : Int) (sg : (List aX) × (List Int) × Int) => match sg with | (m_2, m_3, m_4) => bnd (ry m_2) fun (bK : (List aX)) => jn (fun (sg : (List Int) × Int × (List aZ) × (List aX)) => match sg with | (tg, th, uA, uB) => some ((aB.mk uA uB), (aP.mk tg th))) fun J3 => jn (fun (sg : Bool × (List Int) × Int) => match sg with | (v_2, rz, rA) => bif v_2 then bnd (bV (aP.mk rz rA) (7:Int)) fun (bZ : Int × aP) => bif decide (bZ.1 = (0:Int)) then bnd (cV bZ.2 ([(0:Int), (1:Int), (99:Int), (100:Int), (-1:Int)] : List Int)) fun (dL : Int × aP) => bnd (cM m_1 ([(aZ.mk dL.1 false)] : List aZ)) fun (l_3 : List aZ) => J3 (dL.2.L, dL.2.At, l_3, bK) else bif decide (bZ.1 = (1:Int)) then bnd (bV bZ.2 (4:Int)) fun (gb : Int × aP) => bnd (bV gb.2 (4:Int)) fun (fJ : Int × aP) => bnd (cM bK ([(aX.mk gb.1 fJ.1 (1:Int) (1:Int) (0:Int))] : List aX)) fun (l_4 : List aX) => J3 (fJ.2.L, fJ.2.At, m_1, l_4) else bif decide (bZ.1 = (2:Int)) then bif decide ((0:Int) < (bK.length:Int)) then bnd (bV bZ.2 (bK.length:Int)) fun (lS : Int × aP) => bnd (eW lS.2) fun (mG : Int × aP) => bnd (elO bK lS.1) fun (e_1 : aX) => bnd (iZ bK lS.1 (aX.mk e_1.A e_1.B mG.1 e_1.jc e_1.bY)) fun (l_5 : List aX) => J3 (mG.2.L, mG.2.At, m_1, l_5) else J3 (bZ.2.L, bZ.2.At, m_1, bK) else bif decide (bZ.1 = (3:Int)) then bif decide ((0:Int) < (bK.length:Int)) then bnd (bV bZ.2 (bK.length:Int)) fun (pT : Int × aP) => bnd (eW pT.2) fun (lT : Int × aP) => bnd (elO bK pT.1) fun (e_2 : aX) => bnd (iZ bK pT.1 (aX.mk e_2.A e_2.B e_2.jx lT.1 e_2.bY)) fun (l_6 : List aX) => J3 (lT.2.L, lT.2.At, m_1, l_6) else J3 (bZ.2.L, bZ.2.At, m_1, bK) else bif decide (bZ.1 = (4:Int)) then bif decide ((0:Int) < (bK.length:Int)) then bnd (bV bZ.2 (bK.length:Int)) fun (acu : Int × aP) => bnd (eW acu.2) fun (u9 : Int × aP) => bnd (elO bK acu.1) fun (e_3 : aX) => bnd (iZ bK acu.1 (aX.mk e_3.A e_3.B e_3.jx e_3.jc u9.1)) fun (l_7 : List aX) => J3 (u9.2.L, u9.2.At, m_1, l_7) else J3 (bZ.2.L, bZ.2.At, m_1, bK) else bif decide (bZ.1 = (5:Int)) then bif decide ((0:Int) < (bK.length:Int)) then bnd (bV bZ.2 (bK.length:Int)) fun (wN : Int × aP) => bnd (elO bK wN.1) fun (e_4 : aX) => bnd (cM bK ([e_4] : List aX)) fun (l_8 : List aX) => J3 (wN.2.L, wN.2.At, m_1, l_8) else J3 (bZ.2.L, bZ.2.At, m_1, bK) else eU ((75:Int) - (50:Int)).toNat (50:Int) (fun (j4 : Int) (Z4 : (List aZ) → Option _) (qb : (List aZ)) => bnd (cM qb ([(aZ.mk (j4 : Int) false)] : List aZ)) fun (l_9 : List aZ) => Z4 l_9) (fun (j4 : Int) (qb : (List aZ)) => J3 (bZ.2.L, bZ.2.At, qb, bK)) m_1 else J3 (rz, rA, m_1, bK)) fun J4 => (bif decide ((0:Int) < n) then bnd (fF (aP.mk m_3 m_4) n) fun (dA : Bool × aP) => J4 (dA.1, dA.2.L, dA.2.At) else J4 (false, m_3, m_4))) ([], aq.2.L, aq.2.At)) []
end Go.Proofs.YtpmifmdidfgpdaaGreat

/- Functions of the program, written gI. No condition but bT bF stand in each. -/
namespace Go.Proofs.YtpmifmdidfgpdaaGreat
open Go
set_option maxRecDepth 100000
set_option linter.all false
def lU (xa0 : Int) : Option Bool :=
 some (!decide (xa0 = xa0))
def ew (xa0 : Int) (y : Int) : Option Int :=
 bnd (lU xa0) fun (af : Bool) => bnd (lU y) fun (aq : Bool) => bif af then bif aq then some (0:Int) else some (-1:Int) else bif aq then some (1:Int) else bif decide (xa0 < y) then some (-1:Int) else bif decide (y < xa0) then some (1:Int) else some (0:Int)
def mU (vals : List Int) : Option Int :=
 bM vals 0 (fun (j1 : Int) (e1 : Int) (Z1 : Unit → Option _) (sg : Unit) => match sg with | () => bif !decide (e1 = (0:Int)) then some e1 else Z1 ()) (fun (sg : Unit) => match sg with | () => some (0:Int)) ()
def cq (xa0 : List aZ) (target : Int) (cmp : aZ → Int → Option Int) : Option (Int × Bool) :=
 whl (fun (Z1 : (Int × Int) → Option _) (sg : Int × Int) => match sg with | (i_1, j_1) => bif decide (i_1 < j_1) then bnd (elO xa0 (w64 (Int.fdiv (IntKind.wrap .u64 (w64 (i_1 + j_1))) (2 ^ min (1:Int).toNat 64)))) fun (e_1 : aZ) => bnd (cmp e_1 target) fun (af : Int) => bif decide (af < (0:Int)) then Z1 (w64 ((w64 (Int.fdiv (IntKind.wrap .u64 (w64 (i_1 + j_1))) (2 ^ min (1:Int).toNat 64))) + (1:Int)), j_1) else Z1 (i_1, w64 (Int.fdiv (IntKind.wrap .u64 (w64 (i_1 + j_1))) (2 ^ min (1:Int).toNat 64))) else (bif decide (i_1 < (xa0.length:Int)) then bnd (elO xa0 i_1) fun (e_2 : aZ) => bnd (cmp e_2 target) fun (aq : Int) => some (i_1, decide (aq = (0:Int))) else some (i_1, false))) ((0:Int), (xa0.length:Int))
def eA (sa0 : List aU) (f : aU → Option Bool) : Option Int :=
 bM sa0 0 (fun (j1 : Int) (e1 : aU) (Z1 : Unit → Option _) (sg : Unit) => match sg with | () => bnd (f e1) fun (af : Bool) => bif af then some (j1 : Int) else Z1 ()) (fun (sg : Unit) => match sg with | () => some (-1:Int)) ()
def dM (xa0 : List aX) (target : aX) (cmp : aX → aX → Option Int) : Option (Int × Bool) :=
 whl (fun (Z1 : (Int × Int) → Option _) (sg : Int × Int) => match sg with | (i_1, j_1) => bif decide (i_1 < j_1) then bnd (elO xa0 (w64 (Int.fdiv (IntKind.wrap .u64 (w64 (i_1 + j_1))) (2 ^ min (1:Int).toNat 64)))) fun (e_1 : aX) => bnd (cmp e_1 target) fun (af : Int) => bif decide (af < (0:Int)) then Z1 (w64 ((w64 (Int.fdiv (IntKind.wrap .u64 (w64 (i_1 + j_1))) (2 ^ min (1:Int).toNat 64))) + (1:Int)), j_1) else Z1 (i_1, w64 (Int.fdiv (IntKind.wrap .u64 (w64 (i_1 + j_1))) (2 ^ min (1:Int).toNat 64))) else (bif decide (i_1 < (xa0.length:Int)) then bnd (elO xa0 i_1) fun (e_2 : aX) => bnd (cmp e_2 target) fun (aq : Int) => some (i_1, decide (aq = (0:Int))) else some (i_1, false))) ((0:Int), (xa0.length:Int))
def dS (sa0 : List aZ) (f : aZ → Option Bool) : Option Int :=
 bM sa0 0 (fun (j1 : Int) (e1 : aZ) (Z1 : Unit → Option _) (sg : Unit) => match sg with | () => bnd (f e1) fun (af : Bool) => bif af then some (j1 : Int) else Z1 ()) (fun (sg : Unit) => match sg with | () => some (-1:Int)) ()
def eB (sa0 : List aX) (f : aX → Option Bool) : Option Int :=
 bM sa0 0 (fun (j1 : Int) (e1 : aX) (Z1 : Unit → Option _) (sg : Unit) => match sg with | () => bnd (f e1) fun (af : Bool) => bif af then some (j1 : Int) else Z1 ()) (fun (sg : Unit) => match sg with | () => some (-1:Int)) ()
def dU (sa0 : List ak) (f : ak → Option Bool) : Option Int :=
 bM sa0 0 (fun (j1 : Int) (e1 : ak) (Z1 : Unit → Option _) (sg : Unit) => match sg with | () => bnd (f e1) fun (af : Bool) => bif af then some (j1 : Int) else Z1 ()) (fun (sg : Unit) => match sg with | () => some (-1:Int)) ()
def jd (sa0 : List Int) (v : Int) : Option Int :=
 bM sa0 0 (fun (j1 : Int) (e1 : Int) (Z1 : Unit → Option _) (sg : Unit) => match sg with | () => bif decide (v = e1) then some (j1 : Int) else Z1 ()) (fun (sg : Unit) => match sg with | () => some (-1:Int)) ()
def fG (sa0 : List gi) (f : gi → Option Bool) : Option Int :=
 bM sa0 0 (fun (j1 : Int) (e1 : gi) (Z1 : Unit → Option _) (sg : Unit) => match sg with | () => bnd (f e1) fun (af : Bool) => bif af then some (j1 : Int) else Z1 ()) (fun (sg : Unit) => match sg with | () => some (-1:Int)) ()
def cG (xa0 : List ak) (target : Int) (cmp : ak → Int → Option Int) : Option (Int × Bool) :=
 whl (fun (Z1 : (Int × Int) → Option _) (sg : Int × Int) => match sg with | (i_1, j_1) => bif decide (i_1 < j_1) then bnd (elO xa0 (w64 (Int.fdiv (IntKind.wrap .u64 (w64 (i_1 + j_1))) (2 ^ min (1:Int).toNat 64)))) fun (e_1 : ak) => bnd (cmp e_1 target) fun (af : Int) => bif decide (af < (0:Int)) then Z1 (w64 ((w64 (Int.fdiv (IntKind.wrap .u64 (w64 (i_1 + j_1))) (2 ^ min (1:Int).toNat 64))) + (1:Int)), j_1) else Z1 (i_1, w64 (Int.fdiv (IntKind.wrap .u64 (w64 (i_1 + j_1))) (2 ^ min (1:Int).toNat 64))) else (bif decide (i_1 < (xa0.length:Int)) then bnd (elO xa0 i_1) fun (e_2 : ak) => bnd (cmp e_2 target) fun (aq : Int) => some (i_1, decide (aq = (0:Int))) else some (i_1, false))) ((0:Int), (xa0.length:Int))
def cZ (sa0 : List aZ) (f : aZ → Option Bool) : Option Bool :=
 bnd (dS sa0 f) fun (af : Int) => some (decide ((0:Int) ≤ af))
def cA (sa0 : List aX) (f : aX → Option Bool) : Option Bool :=
 bnd (eB sa0 f) fun (af : Int) => some (decide ((0:Int) ≤ af))
def de (sa0 : List ak) (f : ak → Option Bool) : Option Bool :=
 bnd (dU sa0 f) fun (af : Int) => some (decide ((0:Int) ≤ af))
def dQ (sa0 : List Int) (v : Int) : Option Bool :=
 bnd (jd sa0 v) fun (af : Int) => some (decide ((0:Int) ≤ af))
def eX (sa0 : List gi) (f : gi → Option Bool) : Option Bool :=
 bnd (fG sa0 f) fun (af : Int) => some (decide ((0:Int) ≤ af))
def iT (n : Int) (least : Int) (most : Int) : Option Bool :=
 some ((decide (least ≤ n)) && (decide (n ≤ most)))
def iq (a : aX) (b : aX) : Option Int :=
 bnd (ew a.A b.A) fun (af : Int) => bnd (ew a.B b.B) fun (aq : Int) => bnd (mU ([af, aq] : List Int)) fun (aI : Int) => some aI
def jR (ra0 : aZ) (id : Int) : Option Int :=
 bnd (ew ra0.ID id) fun (af : Int) => some af
def lV (ra0 : aZ) : Option Bool :=
 bnd (iT ra0.ID (1:Int) (99:Int)) fun (af : Bool) => some (!af)
def jI (l : aX) : Option Bool :=
 bnd (iT l.jx (1:Int) (1000:Int)) fun (af : Bool) => (bif !af then some true else bnd (iT l.jc (1:Int) (1000:Int)) fun (aq : Bool) => (bif !aq then some true else bnd (iT l.bY (0:Int) (1000:Int)) fun (aI : Bool) => some (!aI)))
def ir (id : Int) (c_0 : aB) : Option Bool :=
 bnd (cq c_0.aK id jR) fun (af : Int × Bool) => some (!af.2)
def lW (l : aX) (c_0 : aB) : Option Bool :=
 bnd (ir l.A c_0) fun (af : Bool) => (bif af then some true else bnd (ir l.B c_0) fun (aq : Bool) => some aq)
def lX (l : aX) : Option Bool :=
 some (decide (l.B ≤ l.A))
def gj (t : aB) : Option Int :=
 bif ((decide ((24:Int) < (t.aK.length:Int))) || (decide ((60:Int) < (t.Links.length:Int)))) then some (3:Int) else bnd (cZ t.aK lV) fun (af : Bool) => bif af then some (2:Int) else bM t.aK 0 (fun (j1 : Int) (e1 : aZ) (Z1 : Unit → Option _) (sg : Unit) => match sg with | () => jn (fun (v_1 : Bool) => bif v_1 then some (25:Int) else Z1 ()) fun J1 => (bif decide ((0:Int) < (j1 : Int)) then bnd (elO t.aK (w64 ((j1 : Int) - (1:Int)))) fun (e_1 : aZ) => J1 (decide (e1.ID ≤ e_1.ID)) else J1 false)) (fun (sg : Unit) => match sg with | () => bnd (cA t.Links jI) fun (aq : Bool) => bif aq then some (2:Int) else bnd (cA t.Links (fun (y0 : aX) => lW y0 t)) fun (aI : Bool) => bif aI then some (4:Int) else bnd (cA t.Links lX) fun (bk : Bool) => bif bk then some (8:Int) else bM t.Links 0 (fun (j2 : Int) (e2 : aX) (Z2 : Unit → Option _) (sg : Unit) => match sg with | () => jn (fun (v_2 : Bool) => bif v_2 then some (25:Int) else Z2 ()) fun J2 => (bif decide ((0:Int) < (j2 : Int)) then bnd (elO t.Links (w64 ((j2 : Int) - (1:Int)))) fun (e_2 : aX) => bnd (iq e_2 e2) fun (bG : Int) => J2 (decide ((0:Int) ≤ bG)) else J2 false)) (fun (sg : Unit) => match sg with | () => some (0:Int)) ()) ()
def gm (t : aB) : Option Bool :=
 bnd (gj t) fun (af : Int) => some (decide (af = (0:Int)))
def jS (t : aB) (aC : Int) : Option (aZ × Bool) :=
 bnd (cq t.aK aC jR) fun (af : Int × Bool) => bif !af.2 then some ((aZ.mk (0:Int) false), false) else bnd (elO t.aK af.1) fun (e_1 : aZ) => some (e_1, true)
def iu (t : aB) (aC : Int) : Option Bool :=
 bnd (jS t aC) fun (af : aZ × Bool) => bnd (gm t) fun (aq : Bool) => (bif aq then some af.2 else some false)
def jJ (t : aB) (aC : Int) : Option Bool :=
 bnd (jS t aC) fun (af : aZ × Bool) => bnd (gm t) fun (aq : Bool) => (bif aq then some af.1.bh else some false)
def rB (t : aB) (ez : Int) (jG : Int) : Option (Int × Bool) :=
 bnd (gm t) fun (af : Bool) => bif !af then some ((0:Int), false) else bnd (dM t.Links (aX.mk (if jG < ez then jG else ez) (if jG > ez then jG else ez) (0:Int) (0:Int) (0:Int)) iq) fun (aq : Int × Bool) => bif !aq.2 then some ((0:Int), false) else bif decide (ez < jG) then bnd (elO t.Links aq.1) fun (e_1 : aX) => some (e_1.jx, true) else bnd (elO t.Links aq.1) fun (e_2 : aX) => some (e_2.jc, true)
end Go.Proofs.YtpmifmdidfgpdaaGreat

/- Functions of the program, written gI. No condition but bT bF stand in each. -/
namespace Go.Proofs.YtpmifmdidfgpdaaGreat
open Go
set_option maxRecDepth 100000
set_option linter.all false
def pe (xa0 : Int) : Option Int :=
 jn (fun (sg : Int × Int) => match sg with | (af, n_1) => jn (fun (sg : Int × Int) => match sg with | (aq, n_2) => jn (fun (sg : Int × Int) => match sg with | (aI, n_3) => bnd (ixS (⟨#[0, 1, 2, 2, 3, 3, 3, 3, 4, 4, 4, 4, 4, 4, 4, 4, 5, 5, 5, 5, 5, 5, 5, 5, 5, 5, 5, 5, 5, 5, 5, 5, 6, 6, 6, 6, 6, 6, 6, 6, 6, 6, 6, 6, 6, 6, 6, 6, 6, 6, 6, 6, 6, 6, 6, 6, 6, 6, 6, 6, 6, 6, 6, 6, 7, 7, 7, 7, 7, 7, 7, 7, 7, 7, 7, 7, 7, 7, 7, 7, 7, 7, 7, 7, 7, 7, 7, 7, 7, 7, 7, 7, 7, 7, 7, 7, 7, 7, 7, 7, 7, 7, 7, 7, 7, 7, 7, 7, 7, 7, 7, 7, 7, 7, 7, 7, 7, 7, 7, 7, 7, 7, 7, 7, 7, 7, 7, 7, 8, 8, 8, 8, 8, 8, 8, 8, 8, 8, 8, 8, 8, 8, 8, 8, 8, 8, 8, 8, 8, 8, 8, 8, 8, 8, 8, 8, 8, 8, 8, 8, 8, 8, 8, 8, 8, 8, 8, 8, 8, 8, 8, 8, 8, 8, 8, 8, 8, 8, 8, 8, 8, 8, 8, 8, 8, 8, 8, 8, 8, 8, 8, 8, 8, 8, 8, 8, 8, 8, 8, 8, 8, 8, 8, 8, 8, 8, 8, 8, 8, 8, 8, 8, 8, 8, 8, 8, 8, 8, 8, 8, 8, 8, 8, 8, 8, 8, 8, 8, 8, 8, 8, 8, 8, 8, 8, 8, 8, 8, 8, 8, 8, 8, 8, 8, 8, 8, 8, 8, 8, 8, 8, 8, 8, 8, 8, 8]⟩ : ByteArray) (IntKind.wrap .u8 aI)) fun (b_1 : UInt8) => some (w64 (n_3 + (w64 (b_1.toNat : Int))))) fun J3 => bif decide ((256:Int) ≤ aq) then J3 (Int.fdiv aq (2 ^ min (8:Int).toNat 64), w64 (n_2 + (8:Int))) else J3 (aq, n_2)) fun J2 => bif decide ((65536:Int) ≤ af) then J2 (Int.fdiv af (2 ^ min (16:Int).toNat 64), w64 (n_1 + (16:Int))) else J2 (af, n_1)) fun J1 => bif decide ((4294967296:Int) ≤ xa0) then J1 (Int.fdiv xa0 (2 ^ min (32:Int).toNat 64), (32:Int)) else J1 (xa0, (0:Int))
def rC (xa0 : Int) : Option Int :=
 bnd (pe xa0) fun (af : Int) => some af
def fU  : Option Unit :=
 whl (fun (Z1 : Unit → Option _) (sg : Unit) => match sg with | () => some ()) ()
def iE (limit : Int) : Option Unit :=
 whl (fun (Z1 : Unit → Option _) (sg : Unit) => match sg with | () => bnd (fU) fun (af : Unit) => some ()) ()
def nW  : Option Unit :=
 bnd (rC (0:Int)) fun (af : Int) => bnd (iE af) fun (aq : Unit) => some ()
end Go.Proofs.YtpmifmdidfgpdaaGreat

/- Functions of the program, written gI. No condition but bT bF stand in each. -/
namespace Go.Proofs.YtpmifmdidfgpdaaGreat
open Go
set_option maxRecDepth 100000
set_option linter.all false
def fW (t : aB) (aC : Int) : Option (List Int) :=
 bM t.Links 0 (fun (j1 : Int) (e1 : aX) (Z1 : (List Int) → Option _) (cu : (List Int)) => jn (fun (gR : (List Int)) => Z1 gR) fun J1 => bif decide (aC = e1.A) then bnd (cM cu ([e1.B] : List Int)) fun (l_1 : List Int) => J1 l_1 else bif decide (aC = e1.B) then bnd (cM cu ([e1.A] : List Int)) fun (l_2 : List Int) => J1 l_2 else J1 cu) (fun (cu : (List Int)) => chk (decide (cu.length < 4611686018427387904)) <| some (jb cu)) []
def gD : Nat → Int → (List Int) → (List Int) → (List aZ) → (List aX) → Option (List Int)
 | 0, _, _, _, _, _ => none
 | n_ + 1, ra0, vt, uC, uD, uE => jn (fun (v_1 : Bool) => bif v_1 then some vt else bnd (cM vt ([ra0] : List Int)) fun (l_1 : List Int) => bnd (fW (aB.mk uD uE) ra0) fun (aI : (List Int)) => bM aI 0 (fun (j1 : Int) (e1 : Int) (Z1 : (List Int) → Option _) (m_1 : (List Int)) => bnd (gD n_ e1 m_1 uC uD uE) fun (bk : (List Int)) => Z1 bk) (fun (m_1 : (List Int)) => some m_1) l_1) fun J1 => bnd (dQ vt ra0) fun (af : Bool) => (bif af then J1 true else bnd (dQ uC ra0) fun (aq : Bool) => J1 aq)
def jK (t : aB) (ez : Int) (closed : List Int) : Option (List Int) :=
 bnd (gD fuel ez [] closed t.aK t.Links) fun (af : (List Int)) => chk (decide (af.length < 4611686018427387904)) <| some (jb af)
def iw (t : aB) (aC : Int) : Option (List Int) :=
 bnd (gm t) fun (af : Bool) => bif !af then some [] else bnd (fW t aC) fun (aq : (List Int)) => some aq
def gE (t : aB) (a : Int) (b : Int) : Option Bool :=
 bnd (iu t a) fun (af : Bool) => (bif af then bnd (iu t b) fun (aq : Bool) => (bif aq then bnd (jK t a []) fun (aI : (List Int)) => bnd (dQ aI b) fun (bk : Bool) => some bk else some false) else some false)
end Go.Proofs.YtpmifmdidfgpdaaGreat

/- Functions of the program, written gI. No condition but bT bF stand in each. -/
namespace Go.Proofs.YtpmifmdidfgpdaaGreat
open Go
set_option maxRecDepth 100000
set_option linter.all false
def lg (n : Int) : Option Bool :=
 some ((decide (n = (8:Int))) || ((decide (n = (16:Int))) || ((decide (n = (32:Int))) || (decide (n = (64:Int))))))
def fM (n : Int) (low : Int) (high : Int) : Option Bool :=
 some ((decide (low ≤ n)) && (decide (n ≤ high)))
def gV (l : List bx) : Option Bool :=
 bif decide ((8:Int) < (l.length:Int)) then some false else bM l 0 (fun (j1 : Int) (e1 : bx) (Z1 : Unit → Option _) (sg : Unit) => match sg with | () => jn (fun (v_1 : Bool) => bif v_1 then some false else Z1 ()) fun J1 => bnd (fM e1.cg (0:Int) (7:Int)) fun (af : Bool) => (bif !af then J1 true else bnd (fM e1.ID (1:Int) (256:Int)) fun (aq : Bool) => (bif !aq then J1 true else bnd (lg e1.Length) fun (aI : Bool) => (bif !aI then J1 true else (bif decide ((0:Int) < (j1 : Int)) then bnd (elO l (w64 ((j1 : Int) - (1:Int)))) fun (e_1 : bx) => J1 (decide (e1.cg ≤ e_1.cg)) else J1 false))))) (fun (sg : Unit) => match sg with | () => some true) ()
def gv (a : ak) : Option Bool :=
 jn (fun (v_1 : Bool) => bif v_1 then some false else bM a.Links 0 (fun (j1 : Int) (e1 : bu) (Z1 : Unit → Option _) (sg : Unit) => match sg with | () => jn (fun (v_2 : Bool) => bif v_2 then some false else Z1 ()) fun J2 => bnd (fM e1.bw (1:Int) (99:Int)) fun (aI : Bool) => (bif !aI then J2 true else (bif decide (e1.bw = a.aj) then J2 true else bnd (fM e1.mg (1:Int) (1000:Int)) fun (bk : Bool) => (bif !bk then J2 true else bnd (fM e1.bY (0:Int) (1000:Int)) fun (bG : Bool) => (bif !bG then J2 true else (bif decide ((0:Int) < (j1 : Int)) then bnd (elO a.Links (w64 ((j1 : Int) - (1:Int)))) fun (e_1 : bu) => J2 (decide (e1.bw ≤ e_1.bw)) else J2 false)))))) (fun (sg : Unit) => match sg with | () => bnd (gV a.Claims) fun (b9 : Bool) => some b9) ()) fun J1 => bnd (fM a.aj (1:Int) (99:Int)) fun (af : Bool) => (bif !af then J1 true else bnd (fM a.Seq (1:Int) (1000000:Int)) fun (aq : Bool) => (bif !aq then J1 true else J1 (decide ((23:Int) < (a.Links.length:Int)))))
def kV (a : ak) (b : ak) : Option Bool :=
 bif ((!decide (a.aj = b.aj)) || ((!decide (a.Seq = b.Seq)) || ((!(a.bh == b.bh)) || ((!decide ((a.Links.length:Int) = (b.Links.length:Int))) || (!decide ((a.Claims.length:Int) = (b.Claims.length:Int))))))) then some false else bM a.Links 0 (fun (j1 : Int) (e1 : bu) (Z1 : Unit → Option _) (sg : Unit) => match sg with | () => bnd (elO b.Links (j1 : Int)) fun (e_1 : bu) => bif !(hU e1 e_1) then some false else Z1 ()) (fun (sg : Unit) => match sg with | () => bM a.Claims 0 (fun (j2 : Int) (e2 : bx) (Z2 : Unit → Option _) (sg : Unit) => match sg with | () => bnd (elO b.Claims (j2 : Int)) fun (e_2 : bx) => bif !(fO e2 e_2) then some false else Z2 ()) (fun (sg : Unit) => match sg with | () => some true) ()) ()
end Go.Proofs.YtpmifmdidfgpdaaGreat

/- Functions of the program, written gI. No condition but bT bF stand in each. -/
namespace Go.Proofs.YtpmifmdidfgpdaaGreat
open Go
set_option maxRecDepth 100000
set_option linter.all false
def jY (d : aH) : Option Int :=
 bif decide ((99:Int) < (d.ay.length:Int)) then some (3:Int) else bM d.ay 0 (fun (j1 : Int) (e1 : ak) (Z1 : Unit → Option _) (sg : Unit) => match sg with | () => bnd (gv e1) fun (af : Bool) => bif !af then some (1:Int) else Z1 ()) (fun (sg : Unit) => match sg with | () => bM (List.drop 1 d.ay) 1 (fun (j2 : Int) (e2 : ak) (Z2 : Unit → Option _) (sg : Unit) => match sg with | () => bnd (elO d.ay (w64 ((j2 : Int) - (1:Int)))) fun (e_1 : ak) => bif decide (e2.aj ≤ e_1.aj) then some (25:Int) else Z2 ()) (fun (sg : Unit) => match sg with | () => some (0:Int)) ()) ()
def iL (a : aH) (b : aH) : Option Bool :=
 bif !decide ((a.ay.length:Int) = (b.ay.length:Int)) then some false else bM a.ay 0 (fun (j1 : Int) (e1 : ak) (Z1 : Unit → Option _) (sg : Unit) => match sg with | () => bnd (elO b.ay (j1 : Int)) fun (e_1 : ak) => bnd (kV e1 e_1) fun (af : Bool) => bif !af then some false else Z1 ()) (fun (sg : Unit) => match sg with | () => some true) ()
def mX (d : aH) (aC : Int) : Option (ak × Bool) :=
 bM d.ay 0 (fun (j1 : Int) (e1 : ak) (Z1 : Unit → Option _) (sg : Unit) => match sg with | () => bif decide (e1.aj = aC) then some (e1, true) else Z1 ()) (fun (sg : Unit) => match sg with | () => some ((ak.mk (0:Int) (0:Int) false [] []), false)) ()
end Go.Proofs.YtpmifmdidfgpdaaGreat

/- Functions of the program, written gI. No condition but bT bF stand in each. -/
namespace Go.Proofs.YtpmifmdidfgpdaaGreat
open Go
set_option maxRecDepth 100000
set_option linter.all false
end Go.Proofs.YtpmifmdidfgpdaaGreat

/- Functions of the program, written gI. No condition but bT bF stand in each. -/
namespace Go.Proofs.YtpmifmdidfgpdaaGreat
open Go
set_option maxRecDepth 100000
set_option linter.all false
def iM (n : Int) : Option Bool :=
 some ((decide (n = (8:Int))) || ((decide (n = (16:Int))) || ((decide (n = (32:Int))) || (decide (n = (64:Int))))))
def iF (n : Int) (least : Int) (most : Int) : Option Bool :=
 some ((decide (least ≤ n)) && (decide (n ≤ most)))
def gF (a : ak) : Option Bool :=
 jn (fun (v_1 : Bool) => bif v_1 then some false else bM a.Links 0 (fun (j1 : Int) (e1 : bu) (Z1 : Unit → Option _) (sg : Unit) => match sg with | () => jn (fun (v_2 : Bool) => bif v_2 then some false else Z1 ()) fun J2 => bnd (iF e1.bw (1:Int) (99:Int)) fun (aI : Bool) => (bif !aI then J2 true else (bif decide (e1.bw = a.aj) then J2 true else bnd (iF e1.mg (1:Int) (1000:Int)) fun (bk : Bool) => (bif !bk then J2 true else bnd (iF e1.bY (0:Int) (1000:Int)) fun (bG : Bool) => (bif !bG then J2 true else (bif decide ((0:Int) < (j1 : Int)) then bnd (elO a.Links (w64 ((j1 : Int) - (1:Int)))) fun (e_1 : bu) => J2 (decide (e1.bw ≤ e_1.bw)) else J2 false)))))) (fun (sg : Unit) => match sg with | () => bM a.Claims 0 (fun (j2 : Int) (e2 : bx) (Z2 : Unit → Option _) (sg : Unit) => match sg with | () => jn (fun (v_3 : Bool) => bif v_3 then some false else Z2 ()) fun J3 => bnd (iF e2.cg (0:Int) (7:Int)) fun (b9 : Bool) => (bif !b9 then J3 true else bnd (iF e2.ID (1:Int) (256:Int)) fun (ct : Bool) => (bif !ct then J3 true else bnd (iM e2.Length) fun (dw : Bool) => (bif !dw then J3 true else (bif decide ((0:Int) < (j2 : Int)) then bnd (elO a.Claims (w64 ((j2 : Int) - (1:Int)))) fun (e_2 : bx) => J3 (decide (e2.cg ≤ e_2.cg)) else J3 false))))) (fun (sg : Unit) => match sg with | () => some true) ()) ()) fun J1 => bnd (iF a.aj (1:Int) (99:Int)) fun (af : Bool) => (bif !af then J1 true else bnd (iF a.Seq (1:Int) (1000000:Int)) fun (aq : Bool) => (bif !aq then J1 true else (bif decide ((23:Int) < (a.Links.length:Int)) then J1 true else J1 (decide ((8:Int) < (a.Claims.length:Int))))))
def gn (a : List bu) (b : List bu) : Option Bool :=
 bif !decide ((a.length:Int) = (b.length:Int)) then some false else bM a 0 (fun (j1 : Int) (e1 : bu) (Z1 : Unit → Option _) (sg : Unit) => match sg with | () => bnd (elO b (j1 : Int)) fun (e_1 : bu) => bif !(hU e1 e_1) then some false else Z1 ()) (fun (sg : Unit) => match sg with | () => some true) ()
def gp (a : List bx) (b : List bx) : Option Bool :=
 bif !decide ((a.length:Int) = (b.length:Int)) then some false else bM a 0 (fun (j1 : Int) (e1 : bx) (Z1 : Unit → Option _) (sg : Unit) => match sg with | () => bnd (elO b (j1 : Int)) fun (e_1 : bx) => bif !(fO e1 e_1) then some false else Z1 ()) (fun (sg : Unit) => match sg with | () => some true) ()
def cB (s1 : List ak) (s2 : List ak) (eq : ak → ak → Option Bool) : Option Bool :=
 bif !decide ((s1.length:Int) = (s2.length:Int)) then some false else bM s1 0 (fun (j1 : Int) (e1 : ak) (Z1 : Unit → Option _) (sg : Unit) => match sg with | () => bnd (elO s2 (j1 : Int)) fun (e_1 : ak) => bnd (eq e1 e_1) fun (af : Bool) => bif !af then some false else Z1 ()) (fun (sg : Unit) => match sg with | () => some true) ()
def jZ (a : ak) (b : ak) : Option Bool :=
 (bif decide (a.aj = b.aj) then (bif decide (a.Seq = b.Seq) then (bif (a.bh == b.bh) then bnd (gn a.Links b.Links) fun (af : Bool) => (bif af then bnd (gp a.Claims b.Claims) fun (aq : Bool) => some aq else some false) else some false) else some false) else some false)
def dN (sa0 : List aX) : Option (List aX) :=
 bnd (cM ([] : List aX) sa0) fun (l_1 : List aX) => some l_1
def jT  : Option (List aX) :=
 bnd (cM ([] : List aX) []) fun (l_1 : List aX) => some l_1
def dg (s : List aX) : Option (List aX) := dN s
def dH (sa0 : List bx) : Option (List bx) :=
 bnd (cM ([] : List bx) sa0) fun (l_1 : List bx) => some l_1
def jr  : Option (List bx) :=
 bnd (cM ([] : List bx) []) fun (l_1 : List bx) => some l_1
def cR (s : List bx) : Option (List bx) := dH s
def dI (sa0 : List bu) : Option (List bu) :=
 bnd (cM ([] : List bu) sa0) fun (l_1 : List bu) => some l_1
def jt  : Option (List bu) :=
 bnd (cM ([] : List bu) []) fun (l_1 : List bu) => some l_1
def dy (s : List bu) : Option (List bu) := dI s
def eT (a : ak) : Option ak :=
 bnd (dy a.Links) fun (af : (List bu)) => bnd (cR a.Claims) fun (aq : (List bx)) => some (ak.mk a.aj a.Seq a.bh af aq)
def lZ (a : ak) : Option Bool :=
 bnd (gF a) fun (af : Bool) => some (!af)
def fB (d : aH) : Option Int :=
 bif decide ((99:Int) < (d.ay.length:Int)) then some (3:Int) else bnd (de d.ay lZ) fun (af : Bool) => bif af then some (1:Int) else bM d.ay 0 (fun (j1 : Int) (e1 : ak) (Z1 : Unit → Option _) (sg : Unit) => match sg with | () => jn (fun (v_1 : Bool) => bif v_1 then some (25:Int) else Z1 ()) fun J1 => (bif decide ((0:Int) < (j1 : Int)) then bnd (elO d.ay (w64 ((j1 : Int) - (1:Int)))) fun (e_1 : ak) => J1 (decide (e1.aj ≤ e_1.aj)) else J1 false)) (fun (sg : Unit) => match sg with | () => some (0:Int)) ()
def jU (a : aH) (b : aH) : Option Bool :=
 bnd (cB a.ay b.ay jZ) fun (af : Bool) => some af
def jV (d : aH) (aC : Int) : Option (ak × Bool) :=
 bM d.ay 0 (fun (j1 : Int) (e1 : ak) (Z1 : Unit → Option _) (sg : Unit) => match sg with | () => bif decide (e1.aj = aC) then bnd (eT e1) fun (af : ak) => some (af, true) else Z1 ()) (fun (sg : Unit) => match sg with | () => some ((ak.mk (0:Int) (0:Int) false [] []), false)) ()
end Go.Proofs.YtpmifmdidfgpdaaGreat

/- Functions of the program, written gI. No condition but bT bF stand in each. -/
namespace Go.Proofs.YtpmifmdidfgpdaaGreat
open Go
set_option maxRecDepth 100000
set_option linter.all false
def jo (t : aP) (aC : Int) (n : Int) : Option (ak × aP) :=
 bnd (cV t ([(1:Int), (1:Int), (2:Int), (3:Int), (3:Int), (500000:Int), (1000000:Int)] : List Int)) fun (af : Int × aP) => bnd (bV af.2 (3:Int)) fun (aq : Int × aP) => eU ((7:Int) - (1:Int)).toNat (1:Int) (fun (j1 : Int) (Z1 : ((List bu) × (List Int) × Int) → Option _) (sg : (List bu) × (List Int) × Int) => match sg with | (m_1, m_2, m_3) => jn (fun (sg : (List Int) × Int × (List bu)) => match sg with | (m_4, m_5, m_6) => Z1 (m_6, m_4, m_5)) fun J1 => jn (fun (sg : Bool × (List Int) × Int) => match sg with | (v_1, m_7, m_8) => bif v_1 then bnd (dG (aP.mk m_7 m_8) (1:Int) (3:Int)) fun (bk : Int × aP) => bnd (bV bk.2 (3:Int)) fun (bG : Int × aP) => bnd (cM m_1 ([(bu.mk (j1 : Int) bk.1 bG.1)] : List bu)) fun (l_1 : List bu) => J1 (bG.2.L, bG.2.At, l_1) else J1 (m_7, m_8, m_1)) fun J2 => (bif !decide ((j1 : Int) = aC) then bnd (bV (aP.mk m_2 m_3) (2:Int)) fun (aI : Int × aP) => J2 (decide (aI.1 = (0:Int)), aI.2.L, aI.2.At) else J2 (false, m_2, m_3))) (fun (j1 : Int) (sg : (List bu) × (List Int) × Int) => match sg with | (m_1, m_2, m_3) => eU ((2:Int) - (0:Int)).toNat (0:Int) (fun (j2 : Int) (Z2 : ((List bx) × (List Int) × Int) → Option _) (sg : (List bx) × (List Int) × Int) => match sg with | (m_9, gL, gB) => jn (fun (sg : (List Int) × Int × (List bx)) => match sg with | (lz, tg, th) => Z2 (th, lz, tg)) fun J3 => bnd (bV (aP.mk gL gB) (2:Int)) fun (b9 : Int × aP) => bif decide (b9.1 = (0:Int)) then bnd (dG b9.2 (1:Int) (9:Int)) fun (ct : Int × aP) => bnd (jl ct.2) fun (dw : Int × aP) => bnd (cM m_9 ([(bx.mk (j2 : Int) ct.1 dw.1)] : List bx)) fun (l_2 : List bx) => J3 (dw.2.L, dw.2.At, l_2) else J3 (b9.2.L, b9.2.At, m_9)) (fun (j2 : Int) (sg : (List bx) × (List Int) × Int) => match sg with | (m_9, gL, gB) => jn (fun (sg : (List Int) × Int × Int × Int × (List bu) × (List bx)) => match sg with | (uA, uB, rz, rA, qb, ac6) => some ((ak.mk rz rA (decide ((0:Int) < aq.1)) qb ac6), (aP.mk uA uB))) fun J4 => jn (fun (sg : Bool × (List Int) × Int) => match sg with | (v_2, zZ, z6) => bif v_2 then bnd (bV (aP.mk zZ z6) (6:Int)) fun (bK : Int × aP) => bif decide (bK.1 = (0:Int)) then bnd (eW bK.2) fun (dA : Int × aP) => J4 (dA.2.L, dA.2.At, dA.1, af.1, m_1, m_9) else bif decide (bK.1 = (1:Int)) then bnd (eW bK.2) fun (bZ : Int × aP) => J4 (bZ.2.L, bZ.2.At, aC, bZ.1, m_1, m_9) else bif decide (bK.1 = (2:Int)) then bnd (cV bK.2 ([(0:Int), aC, (6:Int), (99:Int), (100:Int)] : List Int)) fun (dL : Int × aP) => bnd (cV dL.2 ([(0:Int), (1:Int), (1000:Int), (1001:Int)] : List Int)) fun (gb : Int × aP) => bnd (cV gb.2 ([(-1:Int), (0:Int), (1000:Int), (1001:Int)] : List Int)) fun (fJ : Int × aP) => bnd (cM m_1 ([(bu.mk dL.1 gb.1 fJ.1)] : List bu)) fun (l_3 : List bu) => J4 (fJ.2.L, fJ.2.At, aC, af.1, l_3, m_9) else bif decide (bK.1 = (3:Int)) then bnd (cV bK.2 ([(-1:Int), (0:Int), (7:Int), (8:Int)] : List Int)) fun (lS : Int × aP) => bnd (cV lS.2 ([(0:Int), (1:Int), (256:Int), (257:Int)] : List Int)) fun (mG : Int × aP) => bnd (cV mG.2 ([(0:Int), (8:Int), (9:Int), (64:Int)] : List Int)) fun (pT : Int × aP) => bnd (cM m_9 ([(bx.mk lS.1 mG.1 pT.1)] : List bx)) fun (l_4 : List bx) => J4 (pT.2.L, pT.2.At, aC, af.1, m_1, l_4) else bif decide (bK.1 = (4:Int)) then eU ((54:Int) - (30:Int)).toNat (30:Int) (fun (j3 : Int) (Z3 : (List bu) → Option _) (wP : (List bu)) => bnd (cM wP ([(bu.mk (j3 : Int) (1:Int) (0:Int))] : List bu)) fun (l_5 : List bu) => Z3 l_5) (fun (j3 : Int) (wP : (List bu)) => J4 (bK.2.L, bK.2.At, aC, af.1, wP, m_9)) m_1 else bif decide ((0:Int) < (m_1.length:Int)) then bnd (eW bK.2) fun (lT : Int × aP) => bnd (elO m_1 (0:Int)) fun (e_1 : bu) => bnd (iZ m_1 (0:Int) (bu.mk e_1.bw lT.1 e_1.bY)) fun (l_6 : List bu) => J4 (lT.2.L, lT.2.At, aC, af.1, l_6, m_9) else J4 (bK.2.L, bK.2.At, aC, af.1, m_1, m_9) else J4 (zZ, z6, aC, af.1, m_1, m_9)) fun J5 => (bif decide ((0:Int) < n) then bnd (fF (aP.mk gL gB) n) fun (dK : Bool × aP) => J5 (dK.1, dK.2.L, dK.2.At) else J5 (false, gL, gB))) ([], m_2, m_3)) ([], aq.2.L, aq.2.At)
def iy (t : aP) (n : Int) : Option (aH × aP) :=
 eU ((7:Int) - (1:Int)).toNat (1:Int) (fun (j1 : Int) (Z1 : ((List ak) × (List Int) × Int) → Option _) (sg : (List ak) × (List Int) × Int) => match sg with | (m_1, m_2, m_3) => jn (fun (sg : (List Int) × Int × (List ak)) => match sg with | (m_4, m_5, m_6) => Z1 (m_6, m_4, m_5)) fun J1 => bnd (bV (aP.mk m_2 m_3) (4:Int)) fun (af : Int × aP) => bif decide ((0:Int) < af.1) then bnd (jo af.2 (j1 : Int) (0:Int)) fun (aq : ak × aP) => bnd (cM m_1 ([aq.1] : List ak)) fun (l_1 : List ak) => J1 (aq.2.L, aq.2.At, l_1) else J1 (af.2.L, af.2.At, m_1)) (fun (j1 : Int) (sg : (List ak) × (List Int) × Int) => match sg with | (m_1, m_2, m_3) => jn (fun (sg : (List Int) × Int × (List ak)) => match sg with | (m_7, m_8, m_9) => some ((aH.mk m_9), (aP.mk m_7 m_8))) fun J2 => jn (fun (sg : Bool × (List Int) × Int) => match sg with | (v_1, gL, gB) => bif v_1 then bnd (cV (aP.mk gL gB) ([(1:Int), (6:Int), (7:Int)] : List Int)) fun (bk : Int × aP) => bnd (jo bk.2 bk.1 (2:Int)) fun (bG : ak × aP) => bnd (cM m_1 ([bG.1] : List ak)) fun (l_2 : List ak) => J2 (bG.2.L, bG.2.At, l_2) else J2 (gL, gB, m_1)) fun J3 => (bif decide ((0:Int) < n) then bnd (fF (aP.mk m_2 m_3) n) fun (aI : Bool × aP) => J3 (aI.1, aI.2.L, aI.2.At) else J3 (false, m_2, m_3))) ([], t.L, t.At)
end Go.Proofs.YtpmifmdidfgpdaaGreat

/- Functions of the program, written gI. No condition but bT bF stand in each. -/
namespace Go.Proofs.YtpmifmdidfgpdaaGreat
open Go
set_option maxRecDepth 100000
set_option linter.all false
def nX (n : Int) : Option Int :=
 some (w64 (Int.tdiv (w64 (n + (7:Int))) (8:Int)))
def lJ (sa0 : bf) : Option Bool :=
 jn (fun (v_1 : Bool) => bif v_1 then some false else (bif decide (w64 ((w64 ((8:Int) * (sa0.Data.length:Int))) - sa0.Bits) = (0:Int)) then some true else bnd (elO sa0.Data (w64 ((sa0.Data.length:Int) - (1:Int)))) fun (e_1 : Int) => chk (decide (0 ≤ w64 ((8:Int) - (w64 ((w64 ((8:Int) * (sa0.Data.length:Int))) - sa0.Bits))))) <| some (decide (IntKind.wrap .u8 (e_1 * 2 ^ min (w64 ((8:Int) - (w64 ((w64 ((8:Int) * (sa0.Data.length:Int))) - sa0.Bits)))).toNat 8) = (0:Int))))) fun J1 => (bif decide (sa0.Bits < (0:Int)) then J1 true else (bif decide ((8192:Int) < sa0.Bits) then J1 true else bnd (nX sa0.Bits) fun (af : Int) => J1 (!decide ((sa0.Data.length:Int) = af))))
def pH (sa0 : bf) (i : Int) : Option Int :=
 bnd (elO sa0.Data (w64 (Int.tdiv i (8:Int)))) fun (e_1 : Int) => chk (decide (0 ≤ w64 ((7:Int) - (Int.tmod i (8:Int))))) <| some (IntKind.wrap .u64 (cW .and .u8 (Int.fdiv e_1 (2 ^ min (w64 ((7:Int) - (Int.tmod i (8:Int)))).toNat 8)) (1:Int)))
def nY (sa0 : bf) (value : Int) (n : Int) : Option bf :=
 whl (fun (Z1 : (Int × (List Int) × Int) → Option _) (sg : Int × (List Int) × Int) => match sg with | (n_1, m_1, m_2) => bif decide ((0:Int) < n_1) then jn (fun (sg : Int × (List Int)) => match sg with | (cK, m_3) => chk (decide (0 ≤ w64 (n_1 - (if cK < n_1 then cK else n_1)))) <| chk (decide (0 ≤ (if cK < n_1 then cK else n_1))) <| bnd (elO m_3 (w64 ((m_3.length:Int) - (1:Int)))) fun (e_1 : Int) => chk (decide (0 ≤ w64 (cK - (if cK < n_1 then cK else n_1)))) <| bnd (iZ m_3 (w64 ((m_3.length:Int) - (1:Int))) (cW .or .u8 e_1 (IntKind.wrap .u8 (IntKind.wrap .u64 ((cW .and .u64 (Int.fdiv value (2 ^ min (w64 (n_1 - (if cK < n_1 then cK else n_1))).toNat 64)) (IntKind.wrap .u64 ((IntKind.wrap .u64 ((1:Int) * 2 ^ min (if cK < n_1 then cK else n_1).toNat 64)) - (1:Int)))) * 2 ^ min (w64 (cK - (if cK < n_1 then cK else n_1))).toNat 64))))) fun (l_2 : List Int) => Z1 (w64 (n_1 - (if cK < n_1 then cK else n_1)), l_2, w64 (m_2 + (if cK < n_1 then cK else n_1)))) fun J1 => bif decide (w64 ((w64 ((8:Int) * (m_1.length:Int))) - m_2) = (0:Int)) then bnd (cM m_1 ([(0:Int)] : List Int)) fun (l_1 : List Int) => J1 ((8:Int), l_1) else J1 (w64 ((w64 ((8:Int) * (m_1.length:Int))) - m_2), m_1) else some (bf.mk m_1 m_2)) (n, sa0.Data, sa0.Bits)
def pW (sa0 : bf) : Option bf :=
 bnd (cM [] sa0.Data) fun (l_1 : List Int) => some (bf.mk l_1 sa0.Bits)
def mY (sa0 : bf) (value : Int) (n : Int) : Option (bf × Int) :=
 bnd (lJ sa0) fun (af : Bool) => bif !af then some ((bf.mk [] (0:Int)), (1:Int)) else jn (fun (v_1 : Bool) => bif v_1 then some ((bf.mk [] (0:Int)), (2:Int)) else bif decide ((8192:Int) < w64 (sa0.Bits + n)) then some ((bf.mk [] (0:Int)), (3:Int)) else bnd (pW sa0) fun (aq : bf) => bnd (nY aq value n) fun (aI : bf) => some (aI, (0:Int))) fun J1 => (bif decide (n < (0:Int)) then J1 true else (bif decide ((64:Int) < n) then J1 true else (bif decide (n < (64:Int)) then chk (decide (0 ≤ n)) <| J1 (!decide (Int.fdiv value (2 ^ min n.toNat 64) = (0:Int))) else J1 false)))
def lK (sa0 : bf) : Option (Int × Int) :=
 bnd (lJ sa0) fun (af : Bool) => bif !af then some ((0:Int), (1:Int)) else chk (decide (sa0.Bits ≤ 9223372036854775807)) <| eU (sa0.Bits - (0:Int)).toNat (0:Int) (fun (j1 : Int) (Z1 : Int → Option _) (eF : Int) => jn (fun (o4 : Int) => Z1 o4) fun J1 => bnd (pH sa0 (j1 : Int)) fun (aq : Int) => bif decide (Int.fdiv eF (2 ^ min (15:Int).toNat 64) = aq) then J1 (cW .and .u64 (IntKind.wrap .u64 (eF * 2 ^ min (1:Int).toNat 64)) (65535:Int)) else J1 (cW .xor .u64 (cW .and .u64 (IntKind.wrap .u64 (eF * 2 ^ min (1:Int).toNat 64)) (65535:Int)) (4129:Int))) (fun (j1 : Int) (eF : Int) => some (eF, (0:Int))) (65535:Int)
end Go.Proofs.YtpmifmdidfgpdaaGreat

/- Functions of the program, written gI. No condition but bT bF stand in each. -/
namespace Go.Proofs.YtpmifmdidfgpdaaGreat
open Go
set_option maxRecDepth 100000
set_option linter.all false
def kL (l : List Int) (i : Int) : Option Int :=
 bnd (elO l (w64 (Int.tdiv i (8:Int)))) fun (e_1 : Int) => chk (decide (0 ≤ IntKind.wrap .u64 (w64 ((7:Int) - (Int.tmod i (8:Int)))))) <| some (cW .and .u64 (IntKind.wrap .u64 (Int.fdiv e_1 (2 ^ min (IntKind.wrap .u64 (w64 ((7:Int) - (Int.tmod i (8:Int))))).toNat 8))) (1:Int))
def j7 (sa0 : bf) : Option Bool :=
 bif ((decide (sa0.Bits < (0:Int))) || ((decide ((8192:Int) < sa0.Bits)) || (!decide ((sa0.Data.length:Int) = w64 (Int.tdiv (w64 (sa0.Bits + (7:Int))) (8:Int)))))) then some false else whl (fun (Z1 : Int → Option _) (i_1 : Int) => bif decide (i_1 < w64 ((8:Int) * (sa0.Data.length:Int))) then bnd (kL sa0.Data i_1) fun (af : Int) => bif !decide (af = (0:Int)) then some false else Z1 (w64 (i_1 + (1:Int))) else some true) sa0.Bits
def oo (sa0 : bf) (b : Int) : Option bf :=
 bnd (cM [] sa0.Data) fun (l_1 : List Int) => jn (fun (l_2 : (List Int)) => jn (fun (l_4 : (List Int)) => some (bf.mk l_4 (w64 (sa0.Bits + (1:Int))))) fun J2 => bif decide (b = (1:Int)) then bnd (elO l_2 (w64 (Int.tdiv sa0.Bits (8:Int)))) fun (e_1 : Int) => chk (decide (0 ≤ IntKind.wrap .u64 (w64 ((7:Int) - (Int.tmod sa0.Bits (8:Int)))))) <| bnd (iZ l_2 (w64 (Int.tdiv sa0.Bits (8:Int))) (cW .or .u8 e_1 (IntKind.wrap .u8 ((1:Int) * 2 ^ min (IntKind.wrap .u64 (w64 ((7:Int) - (Int.tmod sa0.Bits (8:Int))))).toNat 8)))) fun (l_5 : List Int) => J2 l_5 else J2 l_2) fun J1 => bif decide (Int.tmod sa0.Bits (8:Int) = (0:Int)) then bnd (cM l_1 ([(0:Int)] : List Int)) fun (l_3 : List Int) => J1 l_3 else J1 l_1
def mZ (sa0 : bf) (value : Int) (n : Int) : Option (bf × Int) :=
 bnd (j7 sa0) fun (af : Bool) => bif !af then some ((bf.mk [] (0:Int)), (1:Int)) else jn (fun (v_1 : Bool) => bif v_1 then some ((bf.mk [] (0:Int)), (2:Int)) else bif decide ((8192:Int) < w64 (sa0.Bits + n)) then some ((bf.mk [] (0:Int)), (3:Int)) else whl (fun (Z1 : (Int × (List Int) × Int) → Option _) (sg : Int × (List Int) × Int) => match sg with | (i_1, m_1, m_2) => bif decide ((0:Int) ≤ i_1) then chk (decide (0 ≤ IntKind.wrap .u64 i_1)) <| bnd (oo (bf.mk m_1 m_2) (cW .and .u64 (Int.fdiv value (2 ^ min (IntKind.wrap .u64 i_1).toNat 64)) (1:Int))) fun (aq : bf) => Z1 (w64 (i_1 - (1:Int)), aq.Data, aq.Bits) else some ((bf.mk m_1 m_2), (0:Int))) (w64 (n - (1:Int)), sa0.Data, sa0.Bits)) fun J1 => (bif decide (n < (0:Int)) then J1 true else (bif decide ((64:Int) < n) then J1 true else (bif decide (n < (64:Int)) then chk (decide (0 ≤ IntKind.wrap .u64 n)) <| J1 (!decide (Int.fdiv value (2 ^ min (IntKind.wrap .u64 n).toNat 64) = (0:Int))) else J1 false)))
def nZ (sa0 : bf) : Option (bf × Int) :=
 bnd (j7 sa0) fun (af : Bool) => bif !af then some ((bf.mk [] (0:Int)), (1:Int)) else whl (fun (Z1 : ((List Int) × Int) → Option _) (sg : (List Int) × Int) => match sg with | (m_1, m_2) => bif !decide (Int.tmod m_2 (8:Int) = (0:Int)) then bnd (oo (bf.mk m_1 m_2) (0:Int)) fun (aq : bf) => Z1 (aq.Data, aq.Bits) else some ((bf.mk m_1 m_2), (0:Int))) (sa0.Data, sa0.Bits)
def iU (sa0 : bf) : Option (Int × Int) :=
 bnd (j7 sa0) fun (af : Bool) => bif !af then some ((0:Int), (1:Int)) else chk (decide (sa0.Bits ≤ 9223372036854775807)) <| eU (sa0.Bits - (0:Int)).toNat (0:Int) (fun (j1 : Int) (Z1 : Int → Option _) (oO : Int) => jn (fun (abm : Int) => Z1 abm) fun J1 => bnd (kL sa0.Data (j1 : Int)) fun (aq : Int) => bif !decide (Int.fdiv oO (2 ^ min (15:Int).toNat 64) = aq) then J1 (cW .xor .u64 (cW .and .u64 (IntKind.wrap .u64 (oO * 2 ^ min (1:Int).toNat 64)) (65535:Int)) (4129:Int)) else J1 (cW .and .u64 (IntKind.wrap .u64 (oO * 2 ^ min (1:Int).toNat 64)) (65535:Int))) (fun (j1 : Int) (oO : Int) => some (oO, (0:Int))) (65535:Int)
def oP (length : Int) : Option Int :=
 whl (fun (Z1 : (Int × Int) → Option _) (sg : Int × Int) => match sg with | (nS, n_1) => bif decide ((8:Int) < nS) then Z1 (w64 (Int.tdiv nS (2:Int)), w64 (n_1 + (1:Int))) else some n_1) (length, (0:Int))
end Go.Proofs.YtpmifmdidfgpdaaGreat

/- Functions of the program, written gI. No condition but bT bF stand in each. -/
namespace Go.Proofs.YtpmifmdidfgpdaaGreat
open Go
set_option maxRecDepth 100000
set_option linter.all false
def dh (sa0 : bf) (n : Int) (width : Int) : Option bf :=
 bnd (mZ sa0 (IntKind.wrap .u64 n) width) fun (af : bf × Int) => some af.1
def iz (a : ak) : Option ((List Int) × Int) :=
 bnd (gv a) fun (af : Bool) => bif !af then some ([], (1:Int)) else jn (fun (jL : Int) => bnd (dh (bf.mk [] (0:Int)) a.aj (7:Int)) fun (aq : bf) => bnd (dh aq a.Seq (20:Int)) fun (aI : bf) => bnd (dh aI jL (1:Int)) fun (bk : bf) => bnd (dh bk (a.Links.length:Int) (5:Int)) fun (bG : bf) => bM a.Links 0 (fun (j1 : Int) (e1 : bu) (Z1 : ((List Int) × Int) → Option _) (sg : (List Int) × Int) => match sg with | (m_1, m_2) => bnd (dh (bf.mk m_1 m_2) e1.bw (7:Int)) fun (b9 : bf) => bnd (dh b9 e1.mg (10:Int)) fun (ct : bf) => bnd (dh ct e1.bY (10:Int)) fun (dw : bf) => Z1 (dw.Data, dw.Bits)) (fun (sg : (List Int) × Int) => match sg with | (m_1, m_2) => bnd (dh (bf.mk m_1 m_2) (a.Claims.length:Int) (4:Int)) fun (dK : bf) => bM a.Claims 0 (fun (j2 : Int) (e2 : bx) (Z2 : ((List Int) × Int) → Option _) (sg : (List Int) × Int) => match sg with | (m_3, m_4) => bnd (dh (bf.mk m_3 m_4) e2.cg (3:Int)) fun (bK : bf) => bnd (dh bK e2.ID (9:Int)) fun (dA : bf) => bnd (oP e2.Length) fun (bZ : Int) => bnd (dh dA bZ (2:Int)) fun (dL : bf) => Z2 (dL.Data, dL.Bits)) (fun (sg : (List Int) × Int) => match sg with | (m_3, m_4) => bnd (iU (bf.mk m_3 m_4)) fun (gb : Int × Int) => bnd (dh (bf.mk m_3 m_4) (w64 gb.1) (16:Int)) fun (fJ : bf) => bnd (nZ fJ) fun (lS : bf × Int) => some (lS.1.Data, (0:Int))) (dK.Data, dK.Bits)) (bG.Data, bG.Bits)) fun J1 => bif a.bh then J1 (1:Int) else J1 (0:Int)
def n4 (a : ak) (b : ak) : Option Bool :=
 jn (fun (v_1 : Bool) => bif v_1 then some false else bnd (iz a) fun (aI : (List Int) × Int) => bnd (iz b) fun (bk : (List Int) × Int) => some ((decide (b.Seq < a.Seq)) || ((decide (a.Seq = b.Seq)) && (ur .gtr (iI aI.1) (iI bk.1))))) fun J1 => bnd (gv a) fun (af : Bool) => (bif !af then J1 true else bnd (gv b) fun (aq : Bool) => (bif !aq then J1 true else J1 (!decide (a.aj = b.aj))))
end Go.Proofs.YtpmifmdidfgpdaaGreat

/- Functions of the program, written gI. No condition but bT bF stand in each. -/
namespace Go.Proofs.YtpmifmdidfgpdaaGreat
open Go
set_option maxRecDepth 100000
set_option linter.all false
def bU (w : bL) (n : Int) (bits : Int) : Option bL :=
 bnd (mY w.s_ (IntKind.wrap .u64 n) bits) fun (af : bf × Int) => some (bL.mk af.1)
def aqu (a b : List Int) : Int := Go.Extern.BytealgCompare.cmp ⟨(a.map fun n => UInt8.ofNat n.toNat).toArray⟩ ⟨(b.map fun n => UInt8.ofNat n.toNat).toArray⟩
def rD (a b : List Int) : Option Int := some (aqu a b)
def eG (a : ak) : Option ((List Int) × Int) :=
 bnd (gF a) fun (af : Bool) => bif !af then some ([], (1:Int)) else bnd (bU (bL.mk (bf.mk [] (0:Int))) a.aj (7:Int)) fun (aq : bL) => bnd (bU aq a.Seq (20:Int)) fun (aI : bL) => jn (fun (jL : Int) => bnd (bU aI jL (1:Int)) fun (bk : bL) => bnd (bU bk (a.Links.length:Int) (5:Int)) fun (bG : bL) => bM a.Links 0 (fun (j1 : Int) (e1 : bu) (Z1 : ((List Int) × Int) → Option _) (sg : (List Int) × Int) => match sg with | (m_1, m_2) => bnd (bU (bL.mk (bf.mk m_1 m_2)) e1.bw (7:Int)) fun (b9 : bL) => bnd (bU b9 e1.mg (10:Int)) fun (ct : bL) => bnd (bU ct e1.bY (10:Int)) fun (dw : bL) => Z1 (dw.s_.Data, dw.s_.Bits)) (fun (sg : (List Int) × Int) => match sg with | (m_1, m_2) => bnd (bU (bL.mk (bf.mk m_1 m_2)) (a.Claims.length:Int) (4:Int)) fun (dK : bL) => bM a.Claims 0 (fun (j2 : Int) (e2 : bx) (Z2 : ((List Int) × Int) → Option _) (sg : (List Int) × Int) => match sg with | (m_3, m_4) => whl (fun (Z3 : Int → Option _) (jM : Int) => chk (decide (0 ≤ jM)) <| bif decide (IntKind.wrap .i64 ((8:Int) * 2 ^ min jM.toNat 64) < e2.Length) then Z3 (w64 (jM + (1:Int))) else bnd (bU (bL.mk (bf.mk m_3 m_4)) e2.cg (3:Int)) fun (bK : bL) => bnd (bU bK e2.ID (9:Int)) fun (dA : bL) => bnd (bU dA jM (2:Int)) fun (bZ : bL) => Z2 (bZ.s_.Data, bZ.s_.Bits)) (0:Int)) (fun (sg : (List Int) × Int) => match sg with | (m_3, m_4) => bnd (lK (bf.mk m_3 m_4)) fun (dL : Int × Int) => bnd (bU (bL.mk (bf.mk m_3 m_4)) (w64 dL.1) (16:Int)) fun (gb : bL) => some (gb.s_.Data, (0:Int))) (dK.s_.Data, dK.s_.Bits)) (bG.s_.Data, bG.s_.Bits)) fun J1 => bif a.bh then J1 (1:Int) else J1 (0:Int)
def ng (a : ak) (b : ak) : Option Bool :=
 bnd (eG a) fun (af : (List Int) × Int) => bnd (eG b) fun (aq : (List Int) × Int) => bif ((!decide (af.2 = (0:Int))) || ((!decide (aq.2 = (0:Int))) || (!decide (a.aj = b.aj)))) then some false else (bif decide (b.Seq < a.Seq) then some true else (bif decide (a.Seq = b.Seq) then bnd (rD af.1 aq.1) fun (aI : Int) => some (decide ((0:Int) < aI)) else some false))
end Go.Proofs.YtpmifmdidfgpdaaGreat

/- Functions of the program, written gI. No condition but bT bF stand in each. -/
namespace Go.Proofs.YtpmifmdidfgpdaaGreat
open Go
set_option maxRecDepth 100000
set_option linter.all false
def kW (xa0 : ak) (aC : Int) : Option Int :=
 bnd (ew xa0.aj aC) fun (af : Int) => some af
def jq (d : aH) : Option aH :=
 bM d.ay 0 (fun (j1 : Int) (e1 : ak) (Z1 : (List ak) → Option _) (m_1 : (List ak)) => bnd (eT e1) fun (af : ak) => bnd (cM m_1 ([af] : List ak)) fun (l_1 : List ak) => Z1 l_1) (fun (m_1 : (List ak)) => some (aH.mk m_1)) []
def kO (d : aH) (a : ak) : Option (Bool × aH) :=
 bnd (cG d.ay a.aj kW) fun (af : Int × Bool) => jn (fun (m_1 : (List ak)) => some (true, (aH.mk m_1))) fun J1 => bif !af.2 then bnd (eT a) fun (aq : ak) => bnd (aa9 d.ay af.1 aq) fun (l_1 : List ak) => J1 l_1 else bnd (elO d.ay af.1) fun (e_1 : ak) => bnd (ng a e_1) fun (aI : Bool) => bif aI then bnd (eT a) fun (bk : ak) => bnd (iZ d.ay af.1 bk) fun (l_2 : List ak) => J1 l_2 else some (false, d)
def nh (d : aH) (a : ak) : Option (aH × Bool) :=
 bnd (jq d) fun (af : aH) => jn (fun (v_1 : Bool) => bif v_1 then some (af, false) else bnd (kO af a) fun (bk : Bool × aH) => some (bk.2, bk.1)) fun J1 => bnd (fB d) fun (aq : Int) => (bif !decide (aq = (0:Int)) then J1 true else bnd (gF a) fun (aI : Bool) => J1 (!aI))
def qd (a : aH) (b : aH) : Option (aH × Int) :=
 jn (fun (v_1 : Bool) => bif v_1 then some ((aH.mk []), (1:Int)) else bnd (jq a) fun (aI : aH) => bM b.ay 0 (fun (j1 : Int) (e1 : ak) (Z1 : (List ak) → Option _) (m_1 : (List ak)) => bnd (kO (aH.mk m_1) e1) fun (bk : Bool × aH) => Z1 bk.2.ay) (fun (m_1 : (List ak)) => some ((aH.mk m_1), (0:Int))) aI.ay) fun J1 => bnd (fB a) fun (af : Int) => (bif !decide (af = (0:Int)) then J1 true else bnd (fB b) fun (aq : Int) => J1 (!decide (aq = (0:Int))))
end Go.Proofs.YtpmifmdidfgpdaaGreat

/- Functions of the program, written gI. No condition but bT bF stand in each. -/
namespace Go.Proofs.YtpmifmdidfgpdaaGreat
open Go
set_option maxRecDepth 100000
set_option linter.all false
def oQ (d : aH) (a : ak) : Option aH :=
 bM d.ay 0 (fun (j1 : Int) (e1 : ak) (Z1 : (Bool × (List ak)) → Option _) (sg : Bool × (List ak)) => match sg with | (l6, m_1) => jn (fun (sg : Bool × (List ak)) => match sg with | (vU, m_2) => Z1 (vU, m_2)) fun J1 => jn (fun (sg : Bool × (List ak)) => match sg with | (sR, m_3) => bif !decide (e1.aj = a.aj) then bnd (cM m_3 ([e1] : List ak)) fun (l_2 : List ak) => J1 (sR, l_2) else J1 (sR, m_3)) fun J2 => bif ((!l6) && (decide (a.aj ≤ e1.aj))) then bnd (cM m_1 ([a] : List ak)) fun (l_1 : List ak) => J2 (true, l_1) else J2 (l6, m_1)) (fun (sg : Bool × (List ak)) => match sg with | (l6, m_1) => jn (fun (m_4 : (List ak)) => some (aH.mk m_4)) fun J3 => bif !l6 then bnd (cM m_1 ([a] : List ak)) fun (l_3 : List ak) => J3 l_3 else J3 m_1) (false, [])
def pI (d : aH) (a : ak) : Option (aH × Bool) :=
 jn (fun (v_1 : Bool) => bif v_1 then some (d, false) else bnd (mX d a.aj) fun (aI : ak × Bool) => jn (fun (v_2 : Bool) => bif v_2 then some (d, false) else bnd (oQ d a) fun (bG : aH) => some (bG, true)) fun J2 => (bif aI.2 then bnd (n4 a aI.1) fun (bk : Bool) => J2 (!bk) else J2 false)) fun J1 => bnd (jY d) fun (af : Int) => (bif !decide (af = (0:Int)) then J1 true else bnd (gv a) fun (aq : Bool) => J1 (!aq))
end Go.Proofs.YtpmifmdidfgpdaaGreat

/- Functions of the program, written gI. No condition but bT bF stand in each. -/
namespace Go.Proofs.YtpmifmdidfgpdaaGreat
open Go
set_option maxRecDepth 100000
set_option linter.all false
def rG (t : aB) (aC : Int) (seq : Int) (cD : List bx) : Option (ak × Int) :=
 bnd (iS t) fun (af : Int) => bif !decide (af = (0:Int)) then some ((ak.mk (0:Int) (0:Int) false [] []), (1:Int)) else bnd (mj t aC) fun (aq : Bool) => bif !aq then some ((ak.mk (0:Int) (0:Int) false [] []), (4:Int)) else bnd (iK t aC) fun (aI : Bool) => bnd (kU t aC) fun (bk : (List Int)) => bM bk 0 (fun (j1 : Int) (e1 : Int) (Z1 : (List bu) → Option _) (m_1 : (List bu)) => bnd (lI t aC e1) fun (bG : Int × Bool) => bM t.Links 0 (fun (j2 : Int) (e2 : aX) (Z2 : Int → Option _) (m_2 : Int) => jn (fun (m_3 : Int) => Z2 m_3) fun J1 => bif ((decide (e2.A = (if e1 < aC then e1 else aC))) && (decide (e2.B = (if e1 > aC then e1 else aC)))) then J1 e2.bY else J1 m_2) (fun (m_2 : Int) => bnd (cM m_1 ([(bu.mk e1 bG.1 m_2)] : List bu)) fun (l_1 : List bu) => Z1 l_1) (0:Int)) (fun (m_1 : (List bu)) => bnd (gv (ak.mk aC seq aI m_1 cD)) fun (b9 : Bool) => bif !b9 then some ((ak.mk (0:Int) (0:Int) false [] []), (2:Int)) else some ((ak.mk aC seq aI m_1 cD), (0:Int))) []
end Go.Proofs.YtpmifmdidfgpdaaGreat

/- Functions of the program, written gI. No condition but bT bF stand in each. -/
namespace Go.Proofs.YtpmifmdidfgpdaaGreat
open Go
set_option maxRecDepth 100000
set_option linter.all false
def pJ (t : aB) (aC : Int) (seq : Int) (cD : List bx) : Option (ak × Int) :=
 bnd (gj t) fun (af : Int) => bif !decide (af = (0:Int)) then some ((ak.mk (0:Int) (0:Int) false [] []), (1:Int)) else bnd (iu t aC) fun (aq : Bool) => bif !aq then some ((ak.mk (0:Int) (0:Int) false [] []), (4:Int)) else bnd (jJ t aC) fun (aI : Bool) => bnd (cM [] cD) fun (l_1 : List bx) => bM t.Links 0 (fun (j1 : Int) (e1 : aX) (Z1 : (List bu) → Option _) (m_1 : (List bu)) => jn (fun (m_2 : (List bu)) => Z1 m_2) fun J1 => bif decide (aC = e1.A) then bnd (cM m_1 ([(bu.mk e1.B e1.jx e1.bY)] : List bu)) fun (l_2 : List bu) => J1 l_2 else bif decide (aC = e1.B) then bnd (cM m_1 ([(bu.mk e1.A e1.jc e1.bY)] : List bu)) fun (l_3 : List bu) => J1 l_3 else J1 m_1) (fun (m_1 : (List bu)) => bnd (gF (ak.mk aC seq aI m_1 l_1)) fun (bk : Bool) => bif !bk then some ((ak.mk (0:Int) (0:Int) false [] []), (2:Int)) else some ((ak.mk aC seq aI m_1 l_1), (0:Int))) []
end Go.Proofs.YtpmifmdidfgpdaaGreat

/- Functions of the program, written gI. No condition but bT bF stand in each. -/
namespace Go.Proofs.YtpmifmdidfgpdaaGreat
open Go
set_option maxRecDepth 100000
set_option linter.all false
def dD (f : aA) : Option aB :=
 bnd (dg f.Links) fun (af : (List aX)) => bM f.aG 0 (fun (j1 : Int) (e1 : aU) (Z1 : (List aZ) → Option _) (m_1 : (List aZ)) => bnd (cM m_1 ([(aZ.mk e1.aj e1.bh)] : List aZ)) fun (l_1 : List aZ) => Z1 l_1) (fun (m_1 : (List aZ)) => some (aB.mk m_1 af)) []
def mH (n : aU) (c_0 : Int) : Option Bool :=
 some (decide (n.aj = c_0))
def fc (f : aA) (aC : Int) : Option (Int × Bool) :=
 bnd (eA f.aG (fun (y0 : aU) => mH y0 aC)) fun (af : Int) => some (af, decide ((0:Int) ≤ af))
def ee (f : aA) : Option Int :=
 jn (fun (v_1 : Bool) => bif v_1 then some (1:Int) else bM f.aG 0 (fun (j1 : Int) (e1 : aU) (Z1 : Unit → Option _) (sg : Unit) => match sg with | () => jn (fun (v_2 : Bool) => bif v_2 then some (1:Int) else Z1 ()) fun J2 => (bif decide (e1.Seq < (0:Int)) then J2 true else (bif decide ((1000000:Int) < e1.Seq) then J2 true else bnd (gF (ak.mk e1.aj (1:Int) false [] e1.Claims)) fun (aI : Bool) => (bif !aI then J2 true else bnd (fB e1.Database) fun (bk : Int) => J2 (!decide (bk = (0:Int))))))) (fun (sg : Unit) => match sg with | () => bM f.aF 0 (fun (j2 : Int) (e2 : bP) (Z2 : Unit → Option _) (sg : Unit) => match sg with | () => bnd (fc f e2.kT) fun (bG : Int × Bool) => bnd (fc f e2.To) fun (b9 : Int × Bool) => jn (fun (v_3 : Bool) => bif v_3 then some (1:Int) else Z2 ()) fun J3 => (bif !bG.2 then J3 true else (bif !b9.2 then J3 true else (bif decide (e2.kT = e2.To) then J3 true else bnd (fB e2.Database) fun (ct : Int) => J3 (!decide (ct = (0:Int))))))) (fun (sg : Unit) => match sg with | () => some (0:Int)) ()) ()) fun J1 => bnd (dD f) fun (af : aB) => bnd (gj af) fun (aq : Int) => (bif !decide (aq = (0:Int)) then J1 true else J1 (decide ((400:Int) < (f.aF.length:Int))))
def iA (f : aA) (n : aU) : Option (ak × Bool) :=
 bif decide (n.Seq = (0:Int)) then some ((ak.mk (0:Int) (0:Int) false [] []), false) else bnd (dD f) fun (af : aB) => bnd (pJ af n.aj n.Seq n.Claims) fun (aq : ak × Int) => some (aq.1, decide (aq.2 = (0:Int)))
def ni (f : aA) (aC : Int) : Option (ak × Bool) :=
 bnd (fc f aC) fun (af : Int × Bool) => jn (fun (v_1 : Bool) => bif v_1 then some ((ak.mk (0:Int) (0:Int) false [] []), false) else bnd (elO f.aG af.1) fun (e_1 : aU) => bnd (iA f e_1) fun (aI : ak × Bool) => some (aI.1, aI.2)) fun J1 => bnd (ee f) fun (aq : Int) => (bif !decide (aq = (0:Int)) then J1 true else J1 (!af.2))
def eC (d : aH) : Option aH :=
 bM d.ay 0 (fun (j1 : Int) (e1 : ak) (Z1 : (List ak) → Option _) (m_1 : (List ak)) => bnd (dy e1.Links) fun (af : (List bu)) => bnd (cR e1.Claims) fun (aq : (List bx)) => bnd (cM m_1 ([(ak.mk e1.aj e1.Seq e1.bh af aq)] : List ak)) fun (l_1 : List ak) => Z1 l_1) (fun (m_1 : (List ak)) => some (aH.mk m_1)) []
def ig (f : aA) : Option aA :=
 bnd (dg f.Links) fun (af : (List aX)) => bM f.aG 0 (fun (j1 : Int) (e1 : aU) (Z1 : (List aU) → Option _) (m_1 : (List aU)) => bnd (cR e1.Claims) fun (aq : (List bx)) => bnd (eC e1.Database) fun (aI : aH) => bnd (cM m_1 ([(aU.mk e1.aj e1.Seq e1.bh aq aI)] : List aU)) fun (l_1 : List aU) => Z1 l_1) (fun (m_1 : (List aU)) => bM f.aF 0 (fun (j2 : Int) (e2 : bP) (Z2 : (List bP) → Option _) (m_2 : (List bP)) => bnd (eC e2.Database) fun (bk : aH) => bnd (cM m_2 ([(bP.mk e2.kT e2.To bk)] : List bP)) fun (l_2 : List bP) => Z2 l_2) (fun (m_2 : (List bP)) => some (aA.mk af m_1 m_2)) []) []
def iB (f : aA) : Option Bool :=
 jn (fun (v_1 : Bool) => bif v_1 then some false else bnd (dD f) fun (aq : aB) => bM f.aG 0 (fun (j1 : Int) (e1 : aU) (Z1 : Unit → Option _) (sg : Unit) => match sg with | () => bnd (iA f e1) fun (aI : ak × Bool) => bnd (jV e1.Database e1.aj) fun (bk : ak × Bool) => jn (fun (v_2 : Bool) => bif v_2 then some false else bnd (mO f.aG (0:Int) (j1 : Int)) fun (l_1 : List aU) => bM l_1 0 (fun (j2 : Int) (e2 : aU) (Z2 : Unit → Option _) (sg : Unit) => match sg with | () => jn (fun (v_3 : Bool) => bif v_3 then some false else Z2 ()) fun J3 => bnd (gE aq e2.aj e1.aj) fun (b9 : Bool) => (bif b9 then bnd (jU e2.Database e1.Database) fun (ct : Bool) => J3 (!ct) else J3 false)) (fun (sg : Unit) => match sg with | () => Z1 ()) ()) fun J2 => (bif !aI.2 then J2 true else (bif !bk.2 then J2 true else bnd (jZ aI.1 bk.1) fun (bG : Bool) => J2 (!bG)))) (fun (sg : Unit) => match sg with | () => some true) ()) fun J1 => bnd (ee f) fun (af : Int) => (bif !decide (af = (0:Int)) then J1 true else J1 (decide ((0:Int) < (f.aF.length:Int))))
end Go.Proofs.YtpmifmdidfgpdaaGreat

/- Functions of the program, written gI. No condition but bT bF stand in each. -/
namespace Go.Proofs.YtpmifmdidfgpdaaGreat
open Go
set_option maxRecDepth 100000
set_option linter.all false
def dR (m : aT) (i : Int) : Option aT :=
 bnd (elO m.f_.aG i) fun (e_1 : aU) => bnd (iA m.f_ e_1) fun (af : ak × Bool) => bif af.2 then bnd (nh e_1.Database af.1) fun (aq : aH × Bool) => bnd (iZ m.f_.aG i (aU.mk e_1.aj e_1.Seq e_1.bh e_1.Claims aq.1)) fun (l_1 : List aU) => some (aT.mk (aA.mk m.f_.Links l_1 m.f_.aF)) else some m
def fh (m : aT) (i : Int) : Option aT :=
 bnd (elO m.f_.aG i) fun (e_1 : aU) => bnd (dD m.f_) fun (af : aB) => bnd (iw af e_1.aj) fun (aq : (List Int)) => bM aq 0 (fun (j1 : Int) (e1 : Int) (Z1 : (List bP) → Option _) (m_1 : (List bP)) => bnd (eC e_1.Database) fun (aI : aH) => bnd (cM m_1 ([(bP.mk e_1.aj e1 aI)] : List bP)) fun (l_1 : List bP) => Z1 l_1) (fun (m_1 : (List bP)) => some (aT.mk (aA.mk m.f_.Links m.f_.aG m_1))) m.f_.aF
def j9 (m : aT) (k : Int) : Option aT :=
 bnd (elO m.f_.aF k) fun (e_1 : bP) => bnd (aeQ m.f_.aF k (w64 (k + (1:Int)))) fun (l_1 : List bP) => bnd (dD (aA.mk m.f_.Links m.f_.aG l_1)) fun (af : aB) => bnd (rB af e_1.kT e_1.To) fun (aq : Int × Bool) => bif !aq.2 then some (aT.mk (aA.mk m.f_.Links m.f_.aG l_1)) else bnd (fc (aA.mk m.f_.Links m.f_.aG l_1) e_1.To) fun (aI : Int × Bool) => bnd (elO m.f_.aG aI.1) fun (e_2 : aU) => bnd (qd e_2.Database e_1.Database) fun (bk : aH × Int) => bnd (iZ m.f_.aG aI.1 (aU.mk e_2.aj e_2.Seq e_2.bh e_2.Claims bk.1)) fun (l_2 : List aU) => bnd (elO l_2 aI.1) fun (e_3 : aU) => bnd (jV e_3.Database e_3.aj) fun (bG : ak × Bool) => bnd (iA (aA.mk m.f_.Links l_2 l_1) e_3) fun (b9 : ak × Bool) => jn (fun (v_1 : Bool) => bif v_1 then bnd (iZ l_2 aI.1 (aU.mk e_3.aj (w64 (bG.1.Seq + (1:Int))) e_3.bh e_3.Claims e_3.Database)) fun (l_3 : List aU) => bnd (dR (aT.mk (aA.mk m.f_.Links l_3 l_1)) aI.1) fun (dw : aT) => some dw else some (aT.mk (aA.mk m.f_.Links l_2 l_1))) fun J1 => (bif bG.2 then (bif !b9.2 then J1 (decide (bG.1.Seq < (1000000:Int))) else bnd (jZ bG.1 b9.1) fun (ct : Bool) => (bif !ct then J1 (decide (bG.1.Seq < (1000000:Int))) else J1 false)) else J1 false)
def iN (m : aT) : Option aT :=
 whl (fun (Z1 : ((List aX) × (List aU) × (List bP)) → Option _) (sg : (List aX) × (List aU) × (List bP)) => match sg with | (m_1, m_2, m_3) => bif decide ((0:Int) < (m_3.length:Int)) then bnd (j9 (aT.mk (aA.mk m_1 m_2 m_3)) (0:Int)) fun (af : aT) => Z1 (af.f_.Links, af.f_.aG, af.f_.aF) else some (aT.mk (aA.mk m_1 m_2 m_3))) (m.f_.Links, m.f_.aG, m.f_.aF)
def kf (m : aT) : Option aT :=
 bM m.f_.aG 0 (fun (j1 : Int) (e1 : aU) (Z1 : ((List aX) × (List aU) × (List bP)) → Option _) (sg : (List aX) × (List aU) × (List bP)) => match sg with | (m_1, m_2, m_3) => bnd (fh (aT.mk (aA.mk m_1 m_2 m_3)) (j1 : Int)) fun (af : aT) => Z1 (af.f_.Links, af.f_.aG, af.f_.aF)) (fun (sg : (List aX) × (List aU) × (List bP)) => match sg with | (m_1, m_2, m_3) => some (aT.mk (aA.mk m_1 m_2 m_3))) (m.f_.Links, m.f_.aG, m.f_.aF)
end Go.Proofs.YtpmifmdidfgpdaaGreat

/- Functions of the program, written gI. No condition but bT bF stand in each. -/
namespace Go.Proofs.YtpmifmdidfgpdaaGreat
open Go
set_option maxRecDepth 100000
set_option linter.all false
def dz (f : aA) (aC : Int) : Option (aT × Int × Int) :=
 bnd (ee f) fun (af : Int) => bif !decide (af = (0:Int)) then none else bnd (fc f aC) fun (aq : Int × Bool) => bif !aq.2 then none else bnd (ig f) fun (aI : aA) => some ((aT.mk aI), aq.1, (0:Int))
def en (f : aA) (aC : Int) : Option (Int × Int) :=
 bnd (ee f) fun (af : Int) => bif !decide (af = (0:Int)) then some ((0:Int), (1:Int)) else bnd (fc f aC) fun (aq : Int × Bool) => bif !aq.2 then some ((0:Int), (4:Int)) else bnd (ig f) fun (aI : aA) => none
def oR (oa0 : gi) (c_0 : aB) : Option Bool :=
 bnd (iu c_0 oa0.aj) fun (af : Bool) => some (!af)
def qe (t : aB) (cD : List gi) : Option (aA × Int) :=
 bnd (gj t) fun (af : Int) => bif !decide (af = (0:Int)) then some ((aA.mk [] [] []), (1:Int)) else bnd (eX cD (fun (y0 : gi) => oR y0 t)) fun (aq : Bool) => bif aq then some ((aA.mk [] [] []), (4:Int)) else bM cD 0 (fun (j1 : Int) (e1 : gi) (Z1 : Unit → Option _) (sg : Unit) => match sg with | () => jn (fun (v_1 : Bool) => bif v_1 then some ((aA.mk [] [] []), (25:Int)) else Z1 ()) fun J1 => (bif decide ((0:Int) < (j1 : Int)) then bnd (elO cD (w64 ((j1 : Int) - (1:Int)))) fun (e_1 : gi) => bnd (ew e_1.aj e1.aj) fun (aI : Int) => bnd (ew e_1.Claim.cg e1.Claim.cg) fun (bk : Int) => bnd (mU ([aI, bk] : List Int)) fun (bG : Int) => J1 (decide ((0:Int) ≤ bG)) else J1 false)) (fun (sg : Unit) => match sg with | () => bnd (dg t.Links) fun (b9 : (List aX)) => bM t.aK 0 (fun (j2 : Int) (e2 : aZ) (Z2 : (List aU) → Option _) (m_1 : (List aU)) => bM cD 0 (fun (j3 : Int) (e3 : gi) (Z3 : (List bx) → Option _) (m_2 : (List bx)) => jn (fun (m_3 : (List bx)) => Z3 m_3) fun J2 => bif decide (e3.aj = e2.ID) then bnd (cM m_2 ([e3.Claim] : List bx)) fun (l_1 : List bx) => J2 l_1 else J2 m_2) (fun (m_2 : (List bx)) => bnd (cM m_1 ([(aU.mk e2.ID (0:Int) e2.bh m_2 (aH.mk []))] : List aU)) fun (l_2 : List aU) => Z2 l_2) []) (fun (m_1 : (List aU)) => bnd (ee (aA.mk b9 m_1 [])) fun (ct : Int) => bif !decide (ct = (0:Int)) then some ((aA.mk [] [] []), (1:Int)) else some ((aA.mk b9 m_1 []), (0:Int))) []) ()
def fC (f : aA) (aC : Int) : Option (aA × Int) :=
 els (dz f aC) (fun af => bif !decide (af.2.2 = (0:Int)) then some ((aA.mk [] [] []), af.2.2) else bnd (elO af.1.f_.aG af.2.1) fun (e_1 : aU) => bif decide (e_1.Seq = (1000000:Int)) then some ((aA.mk [] [] []), (7:Int)) else bnd (iZ af.1.f_.aG af.2.1 (aU.mk e_1.aj (w64 (e_1.Seq + (1:Int))) e_1.bh e_1.Claims e_1.Database)) fun (l_1 : List aU) => bnd (dR (aT.mk (aA.mk af.1.f_.Links l_1 af.1.f_.aF)) af.2.1) fun (aq : aT) => some (aq.f_, (0:Int))) <| bnd (en f aC) fun aI => bif !decide (aI.2 = (0:Int)) then some ((aA.mk [] [] []), aI.2) else none
def jN (f : aA) (aC : Int) : Option (aA × Int) :=
 els (dz f aC) (fun af => bif !decide (af.2.2 = (0:Int)) then some ((aA.mk [] [] []), af.2.2) else bnd (elO af.1.f_.aG af.2.1) fun (e_1 : aU) => bnd (iZ af.1.f_.aG af.2.1 (aU.mk e_1.aj e_1.Seq e_1.bh e_1.Claims (aH.mk []))) fun (l_1 : List aU) => bnd (elO l_1 af.2.1) fun (e_2 : aU) => bnd (iZ l_1 af.2.1 (aU.mk e_2.aj (1:Int) e_2.bh e_2.Claims e_2.Database)) fun (l_2 : List aU) => bnd (dR (aT.mk (aA.mk af.1.f_.Links l_2 af.1.f_.aF)) af.2.1) fun (aq : aT) => some (aq.f_, (0:Int))) <| bnd (en f aC) fun aI => bif !decide (aI.2 = (0:Int)) then some ((aA.mk [] [] []), aI.2) else none
def l7 (f : aA) (aC : Int) : Option (aA × Int) :=
 els (dz f aC) (fun af => bif !decide (af.2.2 = (0:Int)) then some ((aA.mk [] [] []), af.2.2) else bnd (fh af.1 af.2.1) fun (aq : aT) => bif decide ((400:Int) < (aq.f_.aF.length:Int)) then some ((aA.mk [] [] []), (3:Int)) else some (aq.f_, (0:Int))) <| bnd (en f aC) fun aI => bif !decide (aI.2 = (0:Int)) then some ((aA.mk [] [] []), aI.2) else none
def qf (f : aA) : Option (aA × Int) :=
 bnd (ee f) fun (af : Int) => bif !decide (af = (0:Int)) then some ((aA.mk [] [] []), (1:Int)) else bnd (ig f) fun (aq : aA) => bnd (iN (aT.mk aq)) fun (aI : aT) => bnd (kf aI) fun (bk : aT) => bnd (iN bk) fun (bG : aT) => some (bG.f_, (0:Int))
end Go.Proofs.YtpmifmdidfgpdaaGreat

/- Functions of the program, written gI. No condition but bT bF stand in each. -/
namespace Go.Proofs.YtpmifmdidfgpdaaGreat
open Go
set_option maxRecDepth 100000
set_option linter.all false
def ef (f : aA) : Option aB :=
 bM f.aG 0 (fun (j1 : Int) (e1 : aU) (Z1 : (List aZ) → Option _) (m_1 : (List aZ)) => bnd (cM m_1 ([(aZ.mk e1.aj e1.bh)] : List aZ)) fun (l_1 : List aZ) => Z1 l_1) (fun (m_1 : (List aZ)) => some (aB.mk m_1 f.Links)) []
def gw (f : aA) (aC : Int) : Option Int :=
 bM f.aG 0 (fun (j1 : Int) (e1 : aU) (Z1 : Unit → Option _) (sg : Unit) => match sg with | () => bif decide (e1.aj = aC) then some (j1 : Int) else Z1 ()) (fun (sg : Unit) => match sg with | () => some (-1:Int)) ()
def gx (f : aA) : Option Bool :=
 jn (fun (v_1 : Bool) => bif v_1 then some false else bM f.aG 0 (fun (j1 : Int) (e1 : aU) (Z1 : Unit → Option _) (sg : Unit) => match sg with | () => jn (fun (v_2 : Bool) => bif v_2 then some false else Z1 ()) fun J2 => (bif decide (e1.Seq < (0:Int)) then J2 true else (bif decide ((1000000:Int) < e1.Seq) then J2 true else bnd (gV e1.Claims) fun (aI : Bool) => (bif !aI then J2 true else bnd (jY e1.Database) fun (bk : Int) => J2 (!decide (bk = (0:Int))))))) (fun (sg : Unit) => match sg with | () => bM f.aF 0 (fun (j2 : Int) (e2 : bP) (Z2 : Unit → Option _) (sg : Unit) => match sg with | () => jn (fun (v_3 : Bool) => bif v_3 then some false else Z2 ()) fun J3 => bnd (gw f e2.kT) fun (bG : Int) => (bif decide (bG < (0:Int)) then J3 true else bnd (gw f e2.To) fun (b9 : Int) => (bif decide (b9 < (0:Int)) then J3 true else (bif decide (e2.kT = e2.To) then J3 true else bnd (jY e2.Database) fun (ct : Int) => J3 (!decide (ct = (0:Int))))))) (fun (sg : Unit) => match sg with | () => some true) ()) ()) fun J1 => bnd (ef f) fun (af : aB) => bnd (iS af) fun (aq : Int) => (bif !decide (aq = (0:Int)) then J1 true else J1 (decide ((400:Int) < (f.aF.length:Int))))
def n9 (f : aA) : Option Int :=
 bnd (gx f) fun (af : Bool) => bif !af then some (1:Int) else some (0:Int)
def oq (f : aA) (i : Int) (seq : Int) : Option (ak × Bool) :=
 bnd (ef f) fun (af : aB) => bnd (elO f.aG i) fun (e_1 : aU) => bnd (rG af e_1.aj seq e_1.Claims) fun (aq : ak × Int) => some (aq.1, decide (aq.2 = (0:Int)))
def ot (f : aA) (aC : Int) : Option (ak × Bool) :=
 bnd (gw f aC) fun (af : Int) => jn (fun (v_1 : Bool) => bif v_1 then some ((ak.mk (0:Int) (0:Int) false [] []), false) else bnd (elO f.aG af) fun (e_2 : aU) => bnd (oq f af e_2.Seq) fun (aI : ak × Bool) => some (aI.1, aI.2)) fun J1 => bnd (gx f) fun (aq : Bool) => (bif !aq then J1 true else (bif decide (af < (0:Int)) then J1 true else bnd (elO f.aG af) fun (e_1 : aU) => J1 (decide (e_1.Seq = (0:Int)))))
def nk (f : aA) (i : Int) (n : aU) : Option aA :=
 bnd (cM [] f.aG) fun (l_1 : List aU) => bnd (elO l_1 i) fun (e_1 : aU) => bnd (iZ l_1 i n) fun (l_2 : List aU) => some (aA.mk f.Links l_2 f.aF)
def lM (f : aA) (i : Int) (seq : Int) : Option aA :=
 bnd (elO f.aG i) fun (e_1 : aU) => bnd (oq f i seq) fun (af : ak × Bool) => bnd (pI e_1.Database af.1) fun (aq : aH × Bool) => bnd (nk f i (aU.mk e_1.aj seq e_1.bh e_1.Claims aq.1)) fun (aI : aA) => some aI
def kj (f : aA) (aC : Int) : Option (aA × Int) :=
 bnd (gx f) fun (af : Bool) => bif !af then some ((aA.mk [] [] []), (1:Int)) else bnd (gw f aC) fun (aq : Int) => bif decide (aq < (0:Int)) then some ((aA.mk [] [] []), (4:Int)) else bnd (elO f.aG aq) fun (e_1 : aU) => bif decide (e_1.Seq = (1000000:Int)) then some ((aA.mk [] [] []), (7:Int)) else bnd (lM f aq (w64 (e_1.Seq + (1:Int)))) fun (aI : aA) => some (aI, (0:Int))
def l8 (f : aA) (aC : Int) : Option (aA × Int) :=
 bnd (gx f) fun (af : Bool) => bif !af then some ((aA.mk [] [] []), (1:Int)) else bnd (gw f aC) fun (aq : Int) => bif decide (aq < (0:Int)) then some ((aA.mk [] [] []), (4:Int)) else bnd (elO f.aG aq) fun (e_1 : aU) => bnd (nk f aq (aU.mk e_1.aj e_1.Seq e_1.bh e_1.Claims (aH.mk []))) fun (aI : aA) => bnd (lM aI aq (1:Int)) fun (bk : aA) => some (bk, (0:Int))
def oS (f : aA) (aC : Int) : Option (aA × Int) :=
 bnd (gx f) fun (af : Bool) => bif !af then some ((aA.mk [] [] []), (1:Int)) else bnd (gw f aC) fun (aq : Int) => bif decide (aq < (0:Int)) then some ((aA.mk [] [] []), (4:Int)) else bnd (ef f) fun (aI : aB) => bnd (kU aI aC) fun (bk : (List Int)) => bif decide ((400:Int) < w64 ((f.aF.length:Int) + (bk.length:Int))) then some ((aA.mk [] [] []), (3:Int)) else bnd (cM [] f.aF) fun (l_1 : List bP) => bM bk 0 (fun (j1 : Int) (e1 : Int) (Z1 : (List bP) → Option _) (l_2 : (List bP)) => bnd (elO f.aG aq) fun (e_1 : aU) => bnd (cM l_2 ([(bP.mk aC e1 e_1.Database)] : List bP)) fun (l_3 : List bP) => Z1 l_3) (fun (l_2 : (List bP)) => some ((aA.mk f.Links f.aG l_2), (0:Int))) l_1
def l9 (f : aA) : Option Bool :=
 jn (fun (v_1 : Bool) => bif v_1 then some false else bnd (ef f) fun (aq : aB) => bM f.aG 0 (fun (j1 : Int) (e1 : aU) (Z1 : Unit → Option _) (sg : Unit) => match sg with | () => bnd (ot f e1.aj) fun (aI : ak × Bool) => bnd (mX e1.Database e1.aj) fun (bk : ak × Bool) => jn (fun (v_2 : Bool) => bif v_2 then some false else chk (decide ((j1 : Int) ≤ 9223372036854775807)) <| eU ((j1 : Int) - (0:Int)).toNat (0:Int) (fun (j2 : Int) (Z2 : Unit → Option _) (sg : Unit) => match sg with | () => jn (fun (v_3 : Bool) => bif v_3 then some false else Z2 ()) fun J3 => bnd (elO f.aG (j2 : Int)) fun (e_1 : aU) => bnd (gK aq e1.aj e_1.aj) fun (b9 : Bool) => (bif b9 then bnd (iL e1.Database e_1.Database) fun (ct : Bool) => J3 (!ct) else J3 false)) (fun (j2 : Int) (sg : Unit) => match sg with | () => Z1 ()) ()) fun J2 => (bif !aI.2 then J2 true else (bif !bk.2 then J2 true else bnd (kV aI.1 bk.1) fun (bG : Bool) => J2 (!bG)))) (fun (sg : Unit) => match sg with | () => some true) ()) fun J1 => bnd (gx f) fun (af : Bool) => (bif !af then J1 true else J1 (decide ((0:Int) < (f.aF.length:Int))))
def kX (a : aA) (b : aA) : Option Bool :=
 jn (fun (v_1 : Bool) => bif v_1 then some false else bM a.aG 0 (fun (j1 : Int) (e1 : aU) (Z1 : Unit → Option _) (sg : Unit) => match sg with | () => bnd (elO b.aG (j1 : Int)) fun (e_1 : aU) => jn (fun (v_2 : Bool) => bif v_2 then some false else bM e1.Claims 0 (fun (j2 : Int) (e2 : bx) (Z2 : Unit → Option _) (sg : Unit) => match sg with | () => bnd (elO e_1.Claims (j2 : Int)) fun (e_2 : bx) => bif !(fO e2 e_2) then some false else Z2 ()) (fun (sg : Unit) => match sg with | () => Z1 ()) ()) fun J2 => (bif !decide (e1.Seq = e_1.Seq) then J2 true else bnd (iL e1.Database e_1.Database) fun (bk : Bool) => (bif !bk then J2 true else J2 (!decide ((e1.Claims.length:Int) = (e_1.Claims.length:Int)))))) (fun (sg : Unit) => match sg with | () => bM a.aF 0 (fun (j3 : Int) (e3 : bP) (Z3 : Unit → Option _) (sg : Unit) => match sg with | () => bnd (elO b.aF (j3 : Int)) fun (e_3 : bP) => jn (fun (v_3 : Bool) => bif v_3 then some false else Z3 ()) fun J3 => (bif !decide (e3.kT = e_3.kT) then J3 true else (bif !decide (e3.To = e_3.To) then J3 true else bnd (iL e3.Database e_3.Database) fun (bG : Bool) => J3 (!bG)))) (fun (sg : Unit) => match sg with | () => some true) ()) ()) fun J1 => bnd (ef a) fun (af : aB) => bnd (ef b) fun (aq : aB) => bnd (mT af aq) fun (aI : Bool) => (bif !aI then J1 true else J1 (!decide ((a.aF.length:Int) = (b.aF.length:Int))))
end Go.Proofs.YtpmifmdidfgpdaaGreat

/- Functions of the program, written gI. No condition but bT bF stand in each. -/
namespace Go.Proofs.YtpmifmdidfgpdaaGreat
open Go
set_option maxRecDepth 100000
set_option linter.all false
def lN (t : aP) (most : Int) : Option (aH × aP) :=
 bnd (bV t (3:Int)) fun (af : Int × aP) => bif decide (af.1 = (0:Int)) then some ((aH.mk []), af.2) else bnd (iy af.2 (0:Int)) fun (aq : aH × aP) => whl (fun (Z1 : (Int × (List ak)) → Option _) (sg : Int × (List ak)) => match sg with | (i_1, m_1) => bif decide (i_1 < (m_1.length:Int)) then bnd (elO m_1 i_1) fun (e_1 : ak) => bnd (iZ m_1 i_1 (ak.mk e_1.aj (if most < e_1.Seq then most else e_1.Seq) e_1.bh e_1.Links e_1.Claims)) fun (l_1 : List ak) => Z1 (w64 (i_1 + (1:Int)), l_1) else some ((aH.mk m_1), aq.2)) ((0:Int), aq.1.ay)
def iO (t : aP) (nq : Int) (most : Int) : Option (aA × aP) :=
 bnd (jH t nq (0:Int)) fun (af : aB × aP) => bM af.1.aK 0 (fun (j1 : Int) (e1 : aZ) (Z1 : ((List aU) × (List Int) × Int) → Option _) (sg : (List aU) × (List Int) × Int) => match sg with | (m_1, m_2, m_3) => bnd (cV (aP.mk m_2 m_3) ([(0:Int), (1:Int), (1:Int), (2:Int), (400000:Int)] : List Int)) fun (aq : Int × aP) => bnd (bV aq.2 (5:Int)) fun (aI : Int × aP) => bnd (lN aI.2 most) fun (bk : aH × aP) => eU ((2:Int) - (0:Int)).toNat (0:Int) (fun (j2 : Int) (Z2 : ((List bx) × (List Int) × Int) → Option _) (sg : (List bx) × (List Int) × Int) => match sg with | (m_4, m_5, m_6) => jn (fun (sg : (List Int) × Int × (List bx)) => match sg with | (m_7, m_8, m_9) => Z2 (m_9, m_7, m_8)) fun J1 => bnd (bV (aP.mk m_5 m_6) (2:Int)) fun (bG : Int × aP) => bif decide (bG.1 = (0:Int)) then bnd (dG bG.2 (1:Int) (6:Int)) fun (b9 : Int × aP) => bnd (jl b9.2) fun (ct : Int × aP) => bnd (cM m_4 ([(bx.mk (j2 : Int) b9.1 ct.1)] : List bx)) fun (l_1 : List bx) => J1 (ct.2.L, ct.2.At, l_1) else J1 (bG.2.L, bG.2.At, m_4)) (fun (j2 : Int) (sg : (List bx) × (List Int) × Int) => match sg with | (m_4, m_5, m_6) => bnd (cM m_1 ([(aU.mk e1.ID (if aq.1 < most then aq.1 else most) (decide ((0:Int) < aI.1)) m_4 bk.1)] : List aU)) fun (l_2 : List aU) => Z1 (l_2, m_5, m_6)) ([], bk.2.L, bk.2.At)) (fun (sg : (List aU) × (List Int) × Int) => match sg with | (m_1, m_2, m_3) => bnd (bV (aP.mk m_2 m_3) (4:Int)) fun (dw : Int × aP) => whl (fun (Z3 : (Int × (List bP) × (List Int) × Int) → Option _) (sg : Int × (List bP) × (List Int) × Int) => match sg with | (i_1, gL, gB, lz) => bif ((decide ((0:Int) < i_1)) && (decide ((1:Int) < (af.1.aK.length:Int)))) then bnd (bV (aP.mk gB lz) (af.1.aK.length:Int)) fun (dK : Int × aP) => bnd (dG dK.2 (1:Int) (w64 ((af.1.aK.length:Int) - (1:Int)))) fun (bK : Int × aP) => bnd (r9 (w64 (dK.1 + bK.1)) (af.1.aK.length:Int)) fun (dA : Int) => bnd (elO af.1.aK dK.1) fun (e_1 : aZ) => bnd (elO af.1.aK dA) fun (e_2 : aZ) => bnd (lN bK.2 most) fun (bZ : aH × aP) => bnd (cM gL ([(bP.mk e_1.ID e_2.ID bZ.1)] : List bP)) fun (l_3 : List bP) => Z3 (w64 (i_1 - (1:Int)), l_3, bZ.2.L, bZ.2.At) else some ((aA.mk af.1.Links m_1 gL), (aP.mk gB lz))) (dw.1, [], dw.2.L, dw.2.At)) ([], af.2.L, af.2.At)
end Go.Proofs.YtpmifmdidfgpdaaGreat
